/-
  The library and the walks, part 1.
-/
import Derived.Test.YtgdiabbgiiemcaaDoorProg
import Derived.Test.YtgdiabbgiiemcaaDoorR35
import Derived.KernelRfl
/-
  Types, and rules for the operations at them.
-/
namespace Go.Proofs.YtgdiabbgiiemcaaDoor
open Go.Rv
set_option linter.unusedVariables false
set_option linter.unusedSimpArgs false
set_option maxRecDepth 20000

def glob0 : Arr UInt32 64 := ⟨[1116352408, 1899447441, 3049323471, 3921009573, 961987163, 1508970993, 2453635748, 2870763221, 3624381080, 310598401, 607225278, 1426881987, 1925078388, 2162078206, 2614888103, 3248222580, 3835390401, 4022224774, 264347078, 604807628, 770255983, 1249150122, 1555081692, 1996064986, 2554220882, 2821834349, 2952996808, 3210313671, 3336571891, 3584528711, 113926993, 338241895, 666307205, 773529912, 1294757372, 1396182291, 1695183700, 1986661051, 2177026350, 2456956037, 2730485921, 2820302411, 3259730800, 3345764771, 3516065817, 3600352804, 4094571909, 275423344, 430227734, 506948616, 659060556, 883997877, 958139571, 1322822218, 1537002063, 1747873779, 1955562222, 2024104815, 2227730452, 2361852424, 2428436474, 2756734187, 3204031479, 3329325298], rfl⟩
noncomputable def B : Base := baseOwn Tryd.prog (fun i => if i = 0 then some (C1 u32 glob0.l) else none) (fun f => [32, 40].contains f)
theorem ok : B.Ok := baseOwn_ok _ _ _
theorem own3 (F : Addr → Prop) : (B.env F).own 3 = false := rfl
attribute [go_sem] own3
theorem own4 (F : Addr → Prop) : (B.env F).own 4 = false := rfl
attribute [go_sem] own4
theorem own5 (F : Addr → Prop) : (B.env F).own 5 = false := rfl
attribute [go_sem] own5
theorem own6 (F : Addr → Prop) : (B.env F).own 6 = false := rfl
attribute [go_sem] own6
theorem own10 (F : Addr → Prop) : (B.env F).own 10 = false := rfl
attribute [go_sem] own10
theorem own11 (F : Addr → Prop) : (B.env F).own 11 = false := rfl
attribute [go_sem] own11
theorem own12 (F : Addr → Prop) : (B.env F).own 12 = false := rfl
attribute [go_sem] own12
theorem own13 (F : Addr → Prop) : (B.env F).own 13 = false := rfl
attribute [go_sem] own13
theorem own14 (F : Addr → Prop) : (B.env F).own 14 = false := rfl
attribute [go_sem] own14
theorem own15 (F : Addr → Prop) : (B.env F).own 15 = false := rfl
attribute [go_sem] own15
theorem own16 (F : Addr → Prop) : (B.env F).own 16 = false := rfl
attribute [go_sem] own16
theorem own17 (F : Addr → Prop) : (B.env F).own 17 = false := rfl
attribute [go_sem] own17
theorem own18 (F : Addr → Prop) : (B.env F).own 18 = false := rfl
attribute [go_sem] own18
theorem own19 (F : Addr → Prop) : (B.env F).own 19 = false := rfl
attribute [go_sem] own19
theorem own20 (F : Addr → Prop) : (B.env F).own 20 = false := rfl
attribute [go_sem] own20
theorem own21 (F : Addr → Prop) : (B.env F).own 21 = false := rfl
attribute [go_sem] own21
theorem own22 (F : Addr → Prop) : (B.env F).own 22 = false := rfl
attribute [go_sem] own22
theorem own23 (F : Addr → Prop) : (B.env F).own 23 = false := rfl
attribute [go_sem] own23
theorem own26 (F : Addr → Prop) : (B.env F).own 26 = false := rfl
attribute [go_sem] own26
theorem own27 (F : Addr → Prop) : (B.env F).own 27 = false := rfl
attribute [go_sem] own27
theorem own28 (F : Addr → Prop) : (B.env F).own 28 = false := rfl
attribute [go_sem] own28
theorem own29 (F : Addr → Prop) : (B.env F).own 29 = false := rfl
attribute [go_sem] own29
theorem own30 (F : Addr → Prop) : (B.env F).own 30 = false := rfl
attribute [go_sem] own30
theorem own31 (F : Addr → Prop) : (B.env F).own 31 = false := rfl
attribute [go_sem] own31
theorem own32 (F : Addr → Prop) : (B.env F).own 32 = true := rfl
attribute [go_sem] own32
theorem own33 (F : Addr → Prop) : (B.env F).own 33 = false := rfl
attribute [go_sem] own33
theorem own34 (F : Addr → Prop) : (B.env F).own 34 = false := rfl
attribute [go_sem] own34
theorem own35 (F : Addr → Prop) : (B.env F).own 35 = false := rfl
attribute [go_sem] own35
theorem own36 (F : Addr → Prop) : (B.env F).own 36 = false := rfl
attribute [go_sem] own36
theorem own37 (F : Addr → Prop) : (B.env F).own 37 = false := rfl
attribute [go_sem] own37
theorem own38 (F : Addr → Prop) : (B.env F).own 38 = false := rfl
attribute [go_sem] own38
theorem own39 (F : Addr → Prop) : (B.env F).own 39 = false := rfl
attribute [go_sem] own39
theorem own40 (F : Addr → Prop) : (B.env F).own 40 = true := rfl
attribute [go_sem] own40
theorem own41 (F : Addr → Prop) : (B.env F).own 41 = false := rfl
attribute [go_sem] own41
theorem own42 (F : Addr → Prop) : (B.env F).own 42 = false := rfl
attribute [go_sem] own42
theorem own43 (F : Addr → Prop) : (B.env F).own 43 = false := rfl
attribute [go_sem] own43
theorem own44 (F : Addr → Prop) : (B.env F).own 44 = false := rfl
attribute [go_sem] own44
theorem mixed : Tryd.prog.follows .mixedOrders = true := by kernel_rfl

inductive Api_Value where
  | mk (Kind : Int) (N : Int) (B : List UInt8) (L : List Api_Value)
instance : Inhabited Api_Value := ⟨.mk default default default default⟩
def Api_Value.Kind (x : Api_Value) : Int := match x with
  | .mk a _ _ _ => a
theorem Api_Value_Kind {x0 : Int} {x1 : Int} {x2 : List UInt8} {x3 : List Api_Value} : (Api_Value.mk x0 x1 x2 x3).Kind = x0 := rfl
attribute [go_sem] Api_Value_Kind
def Api_Value.N (x : Api_Value) : Int := match x with
  | .mk _ a _ _ => a
theorem Api_Value_N {x0 : Int} {x1 : Int} {x2 : List UInt8} {x3 : List Api_Value} : (Api_Value.mk x0 x1 x2 x3).N = x1 := rfl
attribute [go_sem] Api_Value_N
def Api_Value.B (x : Api_Value) : List UInt8 := match x with
  | .mk _ _ a _ => a
theorem Api_Value_B {x0 : Int} {x1 : Int} {x2 : List UInt8} {x3 : List Api_Value} : (Api_Value.mk x0 x1 x2 x3).B = x2 := rfl
attribute [go_sem] Api_Value_B
def Api_Value.L (x : Api_Value) : List Api_Value := match x with
  | .mk _ _ _ a => a
theorem Api_Value_L {x0 : Int} {x1 : Int} {x2 : List UInt8} {x3 : List Api_Value} : (Api_Value.mk x0 x1 x2 x3).L = x3 := rfl
attribute [go_sem] Api_Value_L
noncomputable def cApi_Value (v : Api_Value) : List AV := Api_Value.rec (motive_1 := fun _ => List AV) (motive_2 := fun _ => List (List AV)) (fun Kind_ N_ B_ L_ ih3 => [i64 Kind_, i64 N_, .sl false (L cU8 B_), .sl false ih3]) [] (fun _ _ x l => x :: l) v
theorem cApi_Value_l (l : List Api_Value) : Api_Value.rec_1 (motive_1 := fun _ => List AV) (motive_2 := fun _ => List (List AV)) (fun Kind_ N_ B_ L_ ih3 => [i64 Kind_, i64 N_, .sl false (L cU8 B_), .sl false ih3]) [] (fun _ _ x l => x :: l) l = L cApi_Value l := by
  induction l with
  | nil => rfl
  | cons x l ih => exact congrArg (cApi_Value x :: ·) ih
theorem cApi_Value_eq (x : Api_Value) : cApi_Value x = [i64 x.Kind, i64 x.N, .sl false (L cU8 x.B), .sl false (L cApi_Value x.L)] := by
  cases x with
  | mk a0 a1 a2 a3 =>
    show [i64 a0, i64 a1, .sl false (L cU8 a2), .sl false (Api_Value.rec_1 (motive_1 := fun _ => List AV) (motive_2 := fun _ => List (List AV)) (fun Kind_ N_ B_ L_ ih3 => [i64 Kind_, i64 N_, .sl false (L cU8 B_), .sl false ih3]) [] (fun _ _ x l => x :: l) a3)] = _
    rw [cApi_Value_l]; rfl
attribute [go_sem] cApi_Value_eq
theorem tt3 : tabOf Tryd.prog 3 = some ⟨.int .i64, 1, 8, [i64 0]⟩ := by kernel_rfl
theorem tb3 (F : Addr → Prop) : (B.env F).tab 3 = some ⟨.int .i64, 1, 8, [i64 0]⟩ := tt3
attribute [go_sem] tb3
theorem tt4 : tabOf Tryd.prog 4 = some ⟨.bool, 1, 1, [.bool false]⟩ := by kernel_rfl
theorem tb4 (F : Addr → Prop) : (B.env F).tab 4 = some ⟨.bool, 1, 1, [.bool false]⟩ := tt4
attribute [go_sem] tb4
theorem tt5 : tabOf Tryd.prog 5 = some ⟨.int .u8, 1, 1, [u8 ((0 : UInt8))]⟩ := by kernel_rfl
theorem tb5 (F : Addr → Prop) : (B.env F).tab 5 = some ⟨.int .u8, 1, 1, [u8 ((0 : UInt8))]⟩ := tt5
attribute [go_sem] tb5
theorem tt9 : tabOf Tryd.prog 9 = some ⟨.string, 1, 16, [.str (([] : List UInt8))]⟩ := by kernel_rfl
theorem tb9 (F : Addr → Prop) : (B.env F).tab 9 = some ⟨.string, 1, 16, [.str (([] : List UInt8))]⟩ := tt9
attribute [go_sem] tb9
theorem tt22 : tabOf Tryd.prog 22 = some ⟨.slice 5, 1, 24, [.sl true (L cU8 ([]))]⟩ := by kernel_rfl
theorem tb22 (F : Addr → Prop) : (B.env F).tab 22 = some ⟨.slice 5, 1, 24, [.sl true (L cU8 ([]))]⟩ := tt22
attribute [go_sem] tb22
theorem tt25 : tabOf Tryd.prog 25 = some ⟨.array 32 5, 32, 32, (C1 u8 ((Arr.rep 32 (0 : UInt8))).l)⟩ := by kernel_rfl
theorem tb25 (F : Addr → Prop) : (B.env F).tab 25 = some ⟨.array 32 5, 32, 32, (C1 u8 ((Arr.rep 32 (0 : UInt8))).l)⟩ := tt25
attribute [go_sem] tb25
theorem tt30 : tabOf Tryd.prog 30 = some ⟨.int .u64, 1, 8, [u64 ((0 : UInt64))]⟩ := by kernel_rfl
theorem tb30 (F : Addr → Prop) : (B.env F).tab 30 = some ⟨.int .u64, 1, 8, [u64 ((0 : UInt64))]⟩ := tt30
attribute [go_sem] tb30
theorem tt36 : tabOf Tryd.prog 36 = some ⟨.slice 38, 1, 24, [.sl true (L cApi_Value ([]))]⟩ := by kernel_rfl
theorem tb36 (F : Addr → Prop) : (B.env F).tab 36 = some ⟨.slice 38, 1, 24, [.sl true (L cApi_Value ([]))]⟩ := tt36
attribute [go_sem] tb36
theorem tt38 : tabOf Tryd.prog 38 = some ⟨.struct #[⟨"Kind", 3, 0, false, "", "", 0⟩, ⟨"N", 3, 1, false, "", "", 8⟩, ⟨"B", 22, 2, false, "", "", 16⟩, ⟨"L", 36, 3, false, "", "", 40⟩], 4, 64, [i64 0, i64 0, .sl true (L cU8 ([])), .sl true (L cApi_Value ([]))]⟩ := by kernel_rfl
theorem tb38 (F : Addr → Prop) : (B.env F).tab 38 = some ⟨.struct #[⟨"Kind", 3, 0, false, "", "", 0⟩, ⟨"N", 3, 1, false, "", "", 8⟩, ⟨"B", 22, 2, false, "", "", 16⟩, ⟨"L", 36, 3, false, "", "", 40⟩], 4, 64, [i64 0, i64 0, .sl true (L cU8 ([])), .sl true (L cApi_Value ([]))]⟩ := tt38
attribute [go_sem] tb38
theorem tt39 : tabOf Tryd.prog 39 = some ⟨.int .i64, 1, 8, [i64 0]⟩ := by kernel_rfl
theorem tb39 (F : Addr → Prop) : (B.env F).tab 39 = some ⟨.int .i64, 1, 8, [i64 0]⟩ := tt39
attribute [go_sem] tb39
theorem tt45 : tabOf Tryd.prog 45 = some ⟨.slice 22, 1, 24, [.sl true (L (cSl cU8) ([]))]⟩ := by kernel_rfl
theorem tb45 (F : Addr → Prop) : (B.env F).tab 45 = some ⟨.slice 22, 1, 24, [.sl true (L (cSl cU8) ([]))]⟩ := tt45
attribute [go_sem] tb45
theorem tt55 : tabOf Tryd.prog 55 = some ⟨.int .u32, 1, 4, [u32 ((0 : UInt32))]⟩ := by kernel_rfl
theorem tb55 (F : Addr → Prop) : (B.env F).tab 55 = some ⟨.int .u32, 1, 4, [u32 ((0 : UInt32))]⟩ := tt55
attribute [go_sem] tb55
theorem tt56 : tabOf Tryd.prog 56 = some ⟨.array 8 55, 8, 32, (C1 u32 ((Arr.rep 8 (0 : UInt32))).l)⟩ := by kernel_rfl
theorem tb56 (F : Addr → Prop) : (B.env F).tab 56 = some ⟨.array 8 55, 8, 32, (C1 u32 ((Arr.rep 8 (0 : UInt32))).l)⟩ := tt56
attribute [go_sem] tb56
theorem tt59 : tabOf Tryd.prog 59 = some ⟨.int .u64, 1, 8, [u64 ((0 : UInt64))]⟩ := by kernel_rfl
theorem tb59 (F : Addr → Prop) : (B.env F).tab 59 = some ⟨.int .u64, 1, 8, [u64 ((0 : UInt64))]⟩ := tt59
attribute [go_sem] tb59
theorem tt66 : tabOf Tryd.prog 66 = some ⟨.array 64 55, 64, 256, (C1 u32 ((Arr.rep 64 (0 : UInt32))).l)⟩ := by kernel_rfl
theorem tb66 (F : Addr → Prop) : (B.env F).tab 66 = some ⟨.array 64 55, 64, 256, (C1 u32 ((Arr.rep 64 (0 : UInt32))).l)⟩ := tt66
attribute [go_sem] tb66
theorem ku32x0 : AV.int .u32 0 = u32 0 := rfl
attribute [go_sem] ku32x0
theorem ku32x113926993 : AV.int .u32 113926993 = u32 113926993 := rfl
attribute [go_sem] ku32x113926993
theorem ku32x264347078 : AV.int .u32 264347078 = u32 264347078 := rfl
attribute [go_sem] ku32x264347078
theorem ku32x275423344 : AV.int .u32 275423344 = u32 275423344 := rfl
attribute [go_sem] ku32x275423344
theorem ku32x310598401 : AV.int .u32 310598401 = u32 310598401 := rfl
attribute [go_sem] ku32x310598401
theorem ku32x338241895 : AV.int .u32 338241895 = u32 338241895 := rfl
attribute [go_sem] ku32x338241895
theorem ku32x430227734 : AV.int .u32 430227734 = u32 430227734 := rfl
attribute [go_sem] ku32x430227734
theorem ku32x506948616 : AV.int .u32 506948616 = u32 506948616 := rfl
attribute [go_sem] ku32x506948616
theorem ku32x528734635 : AV.int .u32 528734635 = u32 528734635 := rfl
attribute [go_sem] ku32x528734635
theorem ku32x604807628 : AV.int .u32 604807628 = u32 604807628 := rfl
attribute [go_sem] ku32x604807628
theorem ku32x607225278 : AV.int .u32 607225278 = u32 607225278 := rfl
attribute [go_sem] ku32x607225278
theorem ku32x659060556 : AV.int .u32 659060556 = u32 659060556 := rfl
attribute [go_sem] ku32x659060556
theorem ku32x666307205 : AV.int .u32 666307205 = u32 666307205 := rfl
attribute [go_sem] ku32x666307205
theorem ku32x770255983 : AV.int .u32 770255983 = u32 770255983 := rfl
attribute [go_sem] ku32x770255983
theorem ku32x773529912 : AV.int .u32 773529912 = u32 773529912 := rfl
attribute [go_sem] ku32x773529912
theorem ku32x883997877 : AV.int .u32 883997877 = u32 883997877 := rfl
attribute [go_sem] ku32x883997877
theorem ku32x958139571 : AV.int .u32 958139571 = u32 958139571 := rfl
attribute [go_sem] ku32x958139571
theorem ku32x961987163 : AV.int .u32 961987163 = u32 961987163 := rfl
attribute [go_sem] ku32x961987163
theorem ku32x1013904242 : AV.int .u32 1013904242 = u32 1013904242 := rfl
attribute [go_sem] ku32x1013904242
theorem ku32x1116352408 : AV.int .u32 1116352408 = u32 1116352408 := rfl
attribute [go_sem] ku32x1116352408
theorem ku32x1249150122 : AV.int .u32 1249150122 = u32 1249150122 := rfl
attribute [go_sem] ku32x1249150122
theorem ku32x1294757372 : AV.int .u32 1294757372 = u32 1294757372 := rfl
attribute [go_sem] ku32x1294757372
theorem ku32x1322822218 : AV.int .u32 1322822218 = u32 1322822218 := rfl
attribute [go_sem] ku32x1322822218
theorem ku32x1359893119 : AV.int .u32 1359893119 = u32 1359893119 := rfl
attribute [go_sem] ku32x1359893119
theorem ku32x1396182291 : AV.int .u32 1396182291 = u32 1396182291 := rfl
attribute [go_sem] ku32x1396182291
theorem ku32x1426881987 : AV.int .u32 1426881987 = u32 1426881987 := rfl
attribute [go_sem] ku32x1426881987
theorem ku32x1508970993 : AV.int .u32 1508970993 = u32 1508970993 := rfl
attribute [go_sem] ku32x1508970993
theorem ku32x1537002063 : AV.int .u32 1537002063 = u32 1537002063 := rfl
attribute [go_sem] ku32x1537002063
theorem ku32x1541459225 : AV.int .u32 1541459225 = u32 1541459225 := rfl
attribute [go_sem] ku32x1541459225
theorem ku32x1555081692 : AV.int .u32 1555081692 = u32 1555081692 := rfl
attribute [go_sem] ku32x1555081692
theorem ku32x1695183700 : AV.int .u32 1695183700 = u32 1695183700 := rfl
attribute [go_sem] ku32x1695183700
theorem ku32x1747873779 : AV.int .u32 1747873779 = u32 1747873779 := rfl
attribute [go_sem] ku32x1747873779
theorem ku32x1779033703 : AV.int .u32 1779033703 = u32 1779033703 := rfl
attribute [go_sem] ku32x1779033703
theorem ku32x1899447441 : AV.int .u32 1899447441 = u32 1899447441 := rfl
attribute [go_sem] ku32x1899447441
theorem ku32x1925078388 : AV.int .u32 1925078388 = u32 1925078388 := rfl
attribute [go_sem] ku32x1925078388
theorem ku32x1955562222 : AV.int .u32 1955562222 = u32 1955562222 := rfl
attribute [go_sem] ku32x1955562222
theorem ku32x1986661051 : AV.int .u32 1986661051 = u32 1986661051 := rfl
attribute [go_sem] ku32x1986661051
theorem ku32x1996064986 : AV.int .u32 1996064986 = u32 1996064986 := rfl
attribute [go_sem] ku32x1996064986
theorem ku32x2024104815 : AV.int .u32 2024104815 = u32 2024104815 := rfl
attribute [go_sem] ku32x2024104815
theorem ku32x2162078206 : AV.int .u32 2162078206 = u32 2162078206 := rfl
attribute [go_sem] ku32x2162078206
theorem ku32x2177026350 : AV.int .u32 2177026350 = u32 2177026350 := rfl
attribute [go_sem] ku32x2177026350
theorem ku32x2227730452 : AV.int .u32 2227730452 = u32 2227730452 := rfl
attribute [go_sem] ku32x2227730452
theorem ku32x2361852424 : AV.int .u32 2361852424 = u32 2361852424 := rfl
attribute [go_sem] ku32x2361852424
theorem ku32x2428436474 : AV.int .u32 2428436474 = u32 2428436474 := rfl
attribute [go_sem] ku32x2428436474
theorem ku32x2453635748 : AV.int .u32 2453635748 = u32 2453635748 := rfl
attribute [go_sem] ku32x2453635748
theorem ku32x2456956037 : AV.int .u32 2456956037 = u32 2456956037 := rfl
attribute [go_sem] ku32x2456956037
theorem ku32x2554220882 : AV.int .u32 2554220882 = u32 2554220882 := rfl
attribute [go_sem] ku32x2554220882
theorem ku32x2600822924 : AV.int .u32 2600822924 = u32 2600822924 := rfl
attribute [go_sem] ku32x2600822924
theorem ku32x2614888103 : AV.int .u32 2614888103 = u32 2614888103 := rfl
attribute [go_sem] ku32x2614888103
theorem ku32x2730485921 : AV.int .u32 2730485921 = u32 2730485921 := rfl
attribute [go_sem] ku32x2730485921
theorem ku32x2756734187 : AV.int .u32 2756734187 = u32 2756734187 := rfl
attribute [go_sem] ku32x2756734187
theorem ku32x2773480762 : AV.int .u32 2773480762 = u32 2773480762 := rfl
attribute [go_sem] ku32x2773480762
theorem ku32x2820302411 : AV.int .u32 2820302411 = u32 2820302411 := rfl
attribute [go_sem] ku32x2820302411
theorem ku32x2821834349 : AV.int .u32 2821834349 = u32 2821834349 := rfl
attribute [go_sem] ku32x2821834349
theorem ku32x2870763221 : AV.int .u32 2870763221 = u32 2870763221 := rfl
attribute [go_sem] ku32x2870763221
theorem ku32x2952996808 : AV.int .u32 2952996808 = u32 2952996808 := rfl
attribute [go_sem] ku32x2952996808
theorem ku32x3049323471 : AV.int .u32 3049323471 = u32 3049323471 := rfl
attribute [go_sem] ku32x3049323471
theorem ku32x3144134277 : AV.int .u32 3144134277 = u32 3144134277 := rfl
attribute [go_sem] ku32x3144134277
theorem ku32x3204031479 : AV.int .u32 3204031479 = u32 3204031479 := rfl
attribute [go_sem] ku32x3204031479
theorem ku32x3210313671 : AV.int .u32 3210313671 = u32 3210313671 := rfl
attribute [go_sem] ku32x3210313671
theorem ku32x3248222580 : AV.int .u32 3248222580 = u32 3248222580 := rfl
attribute [go_sem] ku32x3248222580
theorem ku32x3259730800 : AV.int .u32 3259730800 = u32 3259730800 := rfl
attribute [go_sem] ku32x3259730800
theorem ku32x3329325298 : AV.int .u32 3329325298 = u32 3329325298 := rfl
attribute [go_sem] ku32x3329325298
theorem ku32x3336571891 : AV.int .u32 3336571891 = u32 3336571891 := rfl
attribute [go_sem] ku32x3336571891
theorem ku32x3345764771 : AV.int .u32 3345764771 = u32 3345764771 := rfl
attribute [go_sem] ku32x3345764771
theorem ku32x3516065817 : AV.int .u32 3516065817 = u32 3516065817 := rfl
attribute [go_sem] ku32x3516065817
theorem ku32x3584528711 : AV.int .u32 3584528711 = u32 3584528711 := rfl
attribute [go_sem] ku32x3584528711
theorem ku32x3600352804 : AV.int .u32 3600352804 = u32 3600352804 := rfl
attribute [go_sem] ku32x3600352804
theorem ku32x3624381080 : AV.int .u32 3624381080 = u32 3624381080 := rfl
attribute [go_sem] ku32x3624381080
theorem ku32x3835390401 : AV.int .u32 3835390401 = u32 3835390401 := rfl
attribute [go_sem] ku32x3835390401
theorem ku32x3921009573 : AV.int .u32 3921009573 = u32 3921009573 := rfl
attribute [go_sem] ku32x3921009573
theorem ku32x4022224774 : AV.int .u32 4022224774 = u32 4022224774 := rfl
attribute [go_sem] ku32x4022224774
theorem ku32x4094571909 : AV.int .u32 4094571909 = u32 4094571909 := rfl
attribute [go_sem] ku32x4094571909
theorem ku64x0 : AV.int .u64 0 = u64 0 := rfl
attribute [go_sem] ku64x0
theorem ku64x3 : AV.int .u64 3 = u64 3 := rfl
attribute [go_sem] ku64x3
theorem ku64x8 : AV.int .u64 8 = u64 8 := rfl
attribute [go_sem] ku64x8
theorem ku64x10 : AV.int .u64 10 = u64 10 := rfl
attribute [go_sem] ku64x10
theorem ku64x16 : AV.int .u64 16 = u64 16 := rfl
attribute [go_sem] ku64x16
theorem ku64x24 : AV.int .u64 24 = u64 24 := rfl
attribute [go_sem] ku64x24
theorem ku64x31 : AV.int .u64 31 = u64 31 := rfl
attribute [go_sem] ku64x31
theorem ku64x32 : AV.int .u64 32 = u64 32 := rfl
attribute [go_sem] ku64x32
theorem ku64x258 : AV.int .u64 258 = u64 258 := rfl
attribute [go_sem] ku64x258
theorem ku8x0 : AV.int .u8 0 = u8 0 := rfl
attribute [go_sem] ku8x0
theorem ku8x1 : AV.int .u8 1 = u8 1 := rfl
attribute [go_sem] ku8x1
theorem ku8x2 : AV.int .u8 2 = u8 2 := rfl
attribute [go_sem] ku8x2
theorem ku8x4 : AV.int .u8 4 = u8 4 := rfl
attribute [go_sem] ku8x4
theorem ku8x22 : AV.int .u8 22 = u8 22 := rfl
attribute [go_sem] ku8x22
theorem ku8x48 : AV.int .u8 48 = u8 48 := rfl
attribute [go_sem] ku8x48
theorem ku8x64 : AV.int .u8 64 = u8 64 := rfl
attribute [go_sem] ku8x64
theorem ku8x66 : AV.int .u8 66 = u8 66 := rfl
attribute [go_sem] ku8x66
theorem ku8x85 : AV.int .u8 85 = u8 85 := rfl
attribute [go_sem] ku8x85
theorem ku8x97 : AV.int .u8 97 = u8 97 := rfl
attribute [go_sem] ku8x97
theorem ku8x98 : AV.int .u8 98 = u8 98 := rfl
attribute [go_sem] ku8x98
theorem ku8x99 : AV.int .u8 99 = u8 99 := rfl
attribute [go_sem] ku8x99
theorem ku8x101 : AV.int .u8 101 = u8 101 := rfl
attribute [go_sem] ku8x101
theorem ku8x110 : AV.int .u8 110 = u8 110 := rfl
attribute [go_sem] ku8x110
theorem ku8x116 : AV.int .u8 116 = u8 116 := rfl
attribute [go_sem] ku8x116
theorem ku8x120 : AV.int .u8 120 = u8 120 := rfl
attribute [go_sem] ku8x120
theorem ku8x128 : AV.int .u8 128 = u8 128 := rfl
attribute [go_sem] ku8x128
theorem ku8x173 : AV.int .u8 173 = u8 173 := rfl
attribute [go_sem] ku8x173
theorem ku8x176 : AV.int .u8 176 = u8 176 := rfl
attribute [go_sem] ku8x176
theorem ku8x186 : AV.int .u8 186 = u8 186 := rfl
attribute [go_sem] ku8x186
theorem ku8x191 : AV.int .u8 191 = u8 191 := rfl
attribute [go_sem] ku8x191
theorem ku8x196 : AV.int .u8 196 = u8 196 := rfl
attribute [go_sem] ku8x196
theorem ku8x227 : AV.int .u8 227 = u8 227 := rfl
attribute [go_sem] ku8x227
theorem ku8x255 : AV.int .u8 255 = u8 255 := rfl
attribute [go_sem] ku8x255
theorem app22x22 {F} {σ : Store} (s x : AV) : builtinA (B.env F) σ .append [22, 22] [s, x] = match view σ x with
      | some new => if strBad x 1 = true then none else if ∀ cs ∈ new, cs.length = 1 then (match s with
          | .sl full els =>
            if els = [] ∧ full = true then
              if Fits new.length 1 then some (.bs false σ.length new.length 0 new.length, σ ++ [.buf 1 new false]) else none
            else if new = [] then some (.sl full els, σ)
            else if full = true ∧ (∀ cs ∈ els, cs.length = 1) ∧ Fits (els.length + new.length) 1
            then some (.bs false σ.length (els.length + new.length) 0 (els.length + new.length), σ ++ [.buf 1 (els ++ new) false]) else none
          | .bs full id tot off len => match σ[id]? with
            | some (.buf k els ro) =>
              if els.length = tot ∧ k = 1 ∧ Fits (len + new.length) 1 then
                if off = 0 ∧ len = tot then some (.bs false id (tot + new.length) 0 (tot + new.length), σ.set id (.buf k (els ++ new) ro))
                else if new = [] then some (.bs full id tot off len, σ)
                else if full then some (.bs false σ.length (len + new.length) 0 (len + new.length), σ ++ [.buf k ((els.drop off).take len ++ new) false])
                else none
              else none
            | _ => none
          | _ => none)
        else none
      | none => none := append_eq (tb22 F) (tb5 F) (by decide) (tb22 F) (.inl ⟨_, rfl⟩) s x []
attribute [go_sem] app22x22
theorem ixsl36 {F} {σ : Store} (f : Bool) (l : List Api_Value) (x : AV) : indexAddrA (B.env F) σ 36 (.sl f (L cApi_Value l)) x = match idx x l.length with
    | some i => some (.rp (cApi_Value (nth l i)))
    | none => none := ixA_sl cApi_Value (tb36 F) (tb38 F) (fun y => by rw [cApi_Value_eq]; rfl) f l x
attribute [go_sem] ixsl36
theorem ixsl22 {F} {σ : Store} (f : Bool) (l : List UInt8) (x : AV) : indexAddrA (B.env F) σ 22 (.sl f (L cU8 l)) x = match idx x l.length with
    | some i => some (.rp (cU8 (nth l i)))
    | none => none := ixA_sl cU8 (tb22 F) (tb5 F) (fun _ => rfl) f l x
attribute [go_sem] ixsl22
theorem ixar66 {F} {σ : Store} (id off : Nat) (x : AV) : indexAddrA (B.env F) σ 66 (.ref id off) x = match idx x 64 with
    | some i => some (.ref id (off + i * 1))
    | none => none := ixA_arr (tb66 F) (tb55 F) id off x
attribute [go_sem] ixar66
theorem ixar56 {F} {σ : Store} (id off : Nat) (x : AV) : indexAddrA (B.env F) σ 56 (.ref id off) x = match idx x 8 with
    | some i => some (.ref id (off + i * 1))
    | none => none := ixA_arr (tb56 F) (tb55 F) id off x
attribute [go_sem] ixar56
theorem ixgl66x0 {F} {σ : Store} (x : AV) : indexAddrA (B.env F) σ 66 (.glob 0) x = match idx x 64 with
    | some i => some (.rp ((C1 u32 glob0.l).drop i))
    | none => none := ixA_glob (tb66 F) (tb55 F) rfl x
attribute [go_sem] ixgl66x0
theorem ixsl45 {F} {σ : Store} (f : Bool) (l : List (List UInt8)) (x : AV) : indexAddrA (B.env F) σ 45 (.sl f (L (cSl cU8) l)) x = match idx x l.length with
    | some i => some (.rp ((cSl cU8) (nth l i)))
    | none => none := ixA_sl (cSl cU8) (tb45 F) (tb22 F) (fun _ => rfl) f l x
attribute [go_sem] ixsl45
theorem ixar25 {F} {σ : Store} (id off : Nat) (x : AV) : indexAddrA (B.env F) σ 25 (.ref id off) x = match idx x 32 with
    | some i => some (.ref id (off + i * 1))
    | none => none := ixA_arr (tb25 F) (tb5 F) id off x
attribute [go_sem] ixar25
theorem aeq25 {F} {op : BinOp} (a b : Arr UInt8 32) : binOpA (B.env F) op 25 (.agg (C1 u8 a.l)) (.agg (C1 u8 b.l)) = match op with
    | .eql => some (.bool (a == b))
    | .neq => some (.bool (!(a == b)))
    | _ => none := bin_arr_u8 (tb25 F) (tb5 F) a b
attribute [go_sem] aeq25
theorem bbneq4 {F} (x y : Bool) : binOpA (B.env F) .neq 4 (.bool x) (.bool y) = some (.bool (!(x == y))) := bin_bool_neq (tb4 F) x y
attribute [go_sem] bbneq4
theorem bbeql4 {F} (x y : Bool) : binOpA (B.env F) .eql 4 (.bool x) (.bool y) = some (.bool (x == y)) := bin_bool_eql (tb4 F) x y
attribute [go_sem] bbeql4
end Go.Proofs.YtgdiabbgiiemcaaDoor
/-
  What the functions compute, as plain programs.
-/
namespace Go.Proofs.YtgdiabbgiiemcaaDoor
open Go.Rv
set_option linter.unusedVariables false
set_option linter.unusedSimpArgs false
set_option maxRecDepth 20000

def bits_RotateLeft32 (x_1 : UInt32) (k_2 : Int) : Option (UInt32) :=
  lt1 (((UInt64.ofInt k_2) &&& (31 : UInt64))) fun (s_3 : UInt64) =>
  lt1 (((shl32 x_1 s_3.toNat) ||| (shr32 x_1 (((32 : UInt64) - s_3)).toNat))) fun (t_5 : UInt32) =>
  some t_5

def codec_appendInt_1_b1 (u_28 : UInt64) (k_29 : Int) : Option ((UInt64 × Int) ⊕ (Int)) :=
  if (decide (u_28 > (0 : UInt64))) = true then
    lt1 ((shr64 u_28 ((8 : UInt64)).toNat)) fun (u_38 : UInt64) =>
    some (.inl ((u_38, (w64 (k_29 + 1)))))
  else
    some (.inr k_29)
def codec_appendInt_1 (u_7 : UInt64) : Option (Int) :=
  ((loopO (fun (v : UInt64 × Int) => codec_appendInt_1_b1 v.1 v.2) ((u_7, 0))).bind fun k_32 =>
  some k_32 : Option (Int)).bind fun k_22 =>
  some k_22

def r02_rotr (x_40 : UInt32) (n_41 : Int) : Option (UInt32) :=
  if NotNeg n_41 then
    if NotNeg ((w64 (32 - n_41))) then
      lt1 (((shr32 x_40 n_41.toNat) ||| (shl32 x_40 (((w64 (32 - n_41))).toNat)))) fun (t_44 : UInt32) =>
      some t_44
    else none
  else none

def codec_appendInt_b1 (n_47 : Int) (k_120 : Int) (t_160 : Int) (l_161 : List UInt8) : Option ((Int × List UInt8) ⊕ (List UInt8)) :=
  if (decide (t_160 < k_120)) = true then
    if NotNeg ((w64 (8 * (w64 ((w64 (k_120 - 1)) - t_160))))) then
      if Fits (l_161.length + 1) 1 then
        lt1 ((l_161 ++ (([((shr64 ((UInt64.ofInt n_47)) (((w64 (8 * (w64 ((w64 (k_120 - 1)) - t_160))))).toNat))).toUInt8] : List UInt8)))) fun (l_174 : List UInt8) =>
        some (.inl (((w64 (t_160 + 1)), l_174)))
      else none
    else none
  else
    some (.inr l_161)
def codec_appendInt (b_46 : List UInt8) (n_47 : Int) : Option (List UInt8) :=
  (codec_appendInt_1 ((UInt64.ofInt n_47))).bind fun y_112 =>
  lt1 ((UInt8.ofInt ((w64 (32 + y_112))))) fun (tag_114 : UInt8) =>
  (if (decide (n_47 < 0)) = true then
    (codec_appendInt_1 ((~~~(UInt64.ofInt n_47)))).bind fun y_125 =>
    lt1 ((UInt8.ofInt ((w64 (31 - y_125))))) fun (tag_127 : UInt8) =>
    some ((y_125, tag_127))
  else
    some ((y_112, tag_114)) : Option (Int × UInt8)).bind fun (k_120, tag_121) =>
  if Fits (b_46.length + 1) 1 then
    lt1 ((b_46 ++ (([tag_121] : List UInt8)))) fun (l_130 : List UInt8) =>
    ((loopO (fun (v : Int × List UInt8) => codec_appendInt_b1 n_47 k_120 v.1 v.2) ((0, l_130))).bind fun l_166 =>
    some l_166 : Option (List UInt8)).bind fun l_152 =>
    some l_152
  else none

def codec_shape_b1 (v_176 : Api_Value) (rec_ : Api_Value → Option (Int × Bool)) (depth_345 : Int) (t_346 : Int) : Option ((Int × Int) ⊕ ((Int) ⊕ ((Int) ⊕ ((Unit) ⊕ (Int × Bool))))) :=
  if (decide (t_346 < (v_176.L.length : Int))) = true then
    if InR t_346 v_176.L.length then
      lt1 ((nth v_176.L t_346.toNat).Kind) fun (f_368 : Int) =>
      lt1 ((nth v_176.L t_346.toNat).N) fun (f_369 : Int) =>
      lt1 ((nth v_176.L t_346.toNat).B) fun (f_370 : List UInt8) =>
      lt1 ((nth v_176.L t_346.toNat).L) fun (f_371 : List Api_Value) =>
      (rec_ ((Api_Value.mk f_368 f_369 f_370 f_371))).bind fun y_376 =>
      if (!y_376.2) = true then
        (((some ((0, false))).bind fun z_378 => some (.inr z_378)).bind fun z_379 => some (.inr z_379)).bind fun z_380 => some (.inr (.inr z_380))
      else
        some (.inl (((mx64 depth_345 y_376.1), (w64 (t_346 + 1)))))
    else none
  else
    some (.inr (.inl depth_345))
def codec_shape_F (rec_ : Api_Value → Option (Int × Bool)) (v_176 : Api_Value) : Option (Int × Bool) :=
  (if (v_176.Kind == 1) = true then
    (if ((v_176.B.length : Int) == 0) = true then
      some (((v_176.L.length : Int) == 0))
    else
      some false : Option (Bool)).bind fun ok_281 =>
    (some ((0, ok_281))).bind fun z_284 => some (.inr z_284)
  else
    if (v_176.Kind == 2) = true then
      (if (v_176.N == 0) = true then
        some (((v_176.L.length : Int) == 0))
      else
        some false : Option (Bool)).bind fun ok_285 =>
      (some ((0, ok_285))).bind fun z_288 => some (.inr z_288)
    else
      if (v_176.Kind == 3) = true then
        (if (v_176.N != 0) = true then
          some true
        else
          some (((v_176.B.length : Int) != 0)) : Option (Bool)).bind fun t_289 =>
        if t_289 = true then
          (some ((0, false))).bind fun z_292 => some (.inr z_292)
        else
          ((loopO (fun (v : Int × Int) => codec_shape_b1 v_176 rec_ v.1 v.2) ((0, 0))).bind fun x => match x with
          | .inl depth_361 =>
            some (.inl depth_361)
          | .inr z => some z : Option ((Int) ⊕ ((Unit) ⊕ (Int × Bool)))).bind fun x => match x with
          | .inl depth_335 =>
            (some (((w64 (depth_335 + 1)), true))).bind fun z_381 => some (.inr z_381)
          | .inr z => some z
      else
        some (.inl (())) : Option ((Unit) ⊕ (Int × Bool))).bind fun x => match x with
  | .inl () =>
    some ((0, false))
  | .inr z => some z
def codec_shape_n (n : Nat) : Api_Value → Option (Int × Bool) := match n with
  | 0 => fun _ => none
  | n + 1 => codec_shape_F (codec_shape_n n)
def codec_shape (v_176 : Api_Value) : Option (Int × Bool) := codec_shape_n 18446744073709551616 v_176

def codec_appendValue_b1 (v_383 : Api_Value) (t_917 : Int) (l_918 : List UInt8) : Option ((Int × List UInt8) ⊕ (List UInt8)) :=
  if (decide (t_917 < (v_383.B.length : Int))) = true then
    (if InR t_917 v_383.B.length then
      if Fits (l_918.length + 1) 1 then
        lt1 ((l_918 ++ (([nth v_383.B t_917.toNat] : List UInt8)))) fun (l_956 : List UInt8) =>
        if (nth v_383.B t_917.toNat == (0 : UInt8)) = true then
          if Fits (l_956.length + 1) 1 then
            lt1 ((l_956 ++ (([(255 : UInt8)] : List UInt8)))) fun (l_959 : List UInt8) =>
            some l_959
          else none
        else
          some l_956
      else none
    else none : Option (List UInt8)).bind fun l_950 =>
    some (.inl (((w64 (t_917 + 1)), l_950)))
  else
    some (.inr l_918)
def codec_appendValue_b2 (v_383 : Api_Value) (rec_ : (List UInt8) → Api_Value → Option (List UInt8)) (t_1008 : Int) (l_1009 : List UInt8) : Option ((Int × List UInt8) ⊕ (List UInt8)) :=
  if (decide (t_1008 < (v_383.L.length : Int))) = true then
    if InR t_1008 v_383.L.length then
      lt1 ((nth v_383.L t_1008.toNat).Kind) fun (f_1028 : Int) =>
      lt1 ((nth v_383.L t_1008.toNat).N) fun (f_1029 : Int) =>
      lt1 ((nth v_383.L t_1008.toNat).B) fun (f_1030 : List UInt8) =>
      lt1 ((nth v_383.L t_1008.toNat).L) fun (f_1031 : List Api_Value) =>
      (rec_ l_1009 ((Api_Value.mk f_1028 f_1029 f_1030 f_1031))).bind fun y_1036 =>
      some (.inl (((w64 (t_1008 + 1)), y_1036)))
    else none
  else
    some (.inr l_1009)
def codec_appendValue_F (rec_ : (List UInt8) → Api_Value → Option (List UInt8)) (b_382 : List UInt8) (v_383 : Api_Value) : Option (List UInt8) :=
  (if (v_383.Kind == 1) = true then
    (codec_appendInt b_382 v_383.N).bind fun y_827 =>
    (some y_827).bind fun z_829 => some (.inr z_829)
  else
    if (v_383.Kind == 2) = true then
      if Fits (b_382.length + 1) 1 then
        lt1 ((b_382 ++ (([(48 : UInt8)] : List UInt8)))) fun (l_831 : List UInt8) =>
        ((loopO (fun (v : Int × List UInt8) => codec_appendValue_b1 v_383 v.1 v.2) ((0, l_831))).bind fun l_937 =>
        some l_937 : Option (List UInt8)).bind fun l_895 =>
        if Fits (l_895.length + 2) 1 then
          lt1 ((l_895 ++ (([(0 : UInt8), (0 : UInt8)] : List UInt8)))) fun (l_962 : List UInt8) =>
          (some l_962).bind fun z_964 => some (.inr z_964)
        else none
      else none
    else
      some (.inl (())) : Option ((Unit) ⊕ (List UInt8))).bind fun x => match x with
  | .inl () =>
    if Fits (b_382.length + 1) 1 then
      lt1 ((b_382 ++ (([(64 : UInt8)] : List UInt8)))) fun (l_966 : List UInt8) =>
      ((loopO (fun (v : Int × List UInt8) => codec_appendValue_b2 v_383 rec_ v.1 v.2) ((0, l_966))).bind fun l_1021 =>
      some l_1021 : Option (List UInt8)).bind fun l_1001 =>
      if Fits (l_1001.length + 1) 1 then
        lt1 ((l_1001 ++ (([(0 : UInt8)] : List UInt8)))) fun (l_1039 : List UInt8) =>
        some l_1039
      else none
    else none
  | .inr z => some z
def codec_appendValue_n (n : Nat) : (List UInt8) → Api_Value → Option (List UInt8) := match n with
  | 0 => fun _ _ => none
  | n + 1 => codec_appendValue_F (codec_appendValue_n n)
def codec_appendValue (b_382 : List UInt8) (v_383 : Api_Value) : Option (List UInt8) := codec_appendValue_n 18446744073709551616 b_382 v_383

def codec_Encode (v_1041 : Api_Value) : Option (List UInt8 × Int) :=
  (codec_shape v_1041).bind fun y_1042 =>
  if (!y_1042.2) = true then
    some (([], 10))
  else
    if (decide (y_1042.1 > 16)) = true then
      some (([], 2))
    else
      (codec_appendValue ([]) v_1041).bind fun y_1044 =>
      if (decide ((y_1044.length : Int) > 65536)) = true then
        some (([], 2))
      else
        some ((y_1044, 0))

def r02_constants  : Option (Arr UInt32 64) :=
  lt1 ((⟨[(1116352408 : UInt32), (1899447441 : UInt32), (3049323471 : UInt32), (3921009573 : UInt32), (961987163 : UInt32), (1508970993 : UInt32), (2453635748 : UInt32), (2870763221 : UInt32), (3624381080 : UInt32), (310598401 : UInt32), (607225278 : UInt32), (1426881987 : UInt32), (1925078388 : UInt32), (2162078206 : UInt32), (2614888103 : UInt32), (3248222580 : UInt32), (3835390401 : UInt32), (4022224774 : UInt32), (264347078 : UInt32), (604807628 : UInt32), (770255983 : UInt32), (1249150122 : UInt32), (1555081692 : UInt32), (1996064986 : UInt32), (2554220882 : UInt32), (2821834349 : UInt32), (2952996808 : UInt32), (3210313671 : UInt32), (3336571891 : UInt32), (3584528711 : UInt32), (113926993 : UInt32), (338241895 : UInt32), (666307205 : UInt32), (773529912 : UInt32), (1294757372 : UInt32), (1396182291 : UInt32), (1695183700 : UInt32), (1986661051 : UInt32), (2177026350 : UInt32), (2456956037 : UInt32), (2730485921 : UInt32), (2820302411 : UInt32), (3259730800 : UInt32), (3345764771 : UInt32), (3516065817 : UInt32), (3600352804 : UInt32), (4094571909 : UInt32), (275423344 : UInt32), (430227734 : UInt32), (506948616 : UInt32), (659060556 : UInt32), (883997877 : UInt32), (958139571 : UInt32), (1322822218 : UInt32), (1537002063 : UInt32), (1747873779 : UInt32), (1955562222 : UInt32), (2024104815 : UInt32), (2227730452 : UInt32), (2361852424 : UInt32), (2428436474 : UInt32), (2756734187 : UInt32), (3204031479 : UInt32), (3329325298 : UInt32)], rfl⟩ : Arr UInt32 64)) fun (f_1046 : Arr UInt32 64) =>
  some f_1046

def r02_schedule_b1 (b_1048 : List UInt8) (i_1091 : Int) (f_1092 : Arr UInt32 64) : Option ((Int × Arr UInt32 64) ⊕ (Arr UInt32 64)) :=
  if (decide (i_1091 < 16)) = true then
    if InR ((w64 (4 * i_1091))) b_1048.length then
      if InR ((w64 ((w64 (4 * i_1091)) + 1))) b_1048.length then
        if InR ((w64 ((w64 (4 * i_1091)) + 2))) b_1048.length then
          if InR ((w64 ((w64 (4 * i_1091)) + 3))) b_1048.length then
            if InR i_1091 64 then
              lt1 ((f_1092.set i_1091.toNat (((((shl32 ((nth b_1048 (((w64 (4 * i_1091))).toNat)).toUInt32) ((24 : UInt64)).toNat) ||| (shl32 ((nth b_1048 (((w64 ((w64 (4 * i_1091)) + 1))).toNat)).toUInt32) ((16 : UInt64)).toNat)) ||| (shl32 ((nth b_1048 (((w64 ((w64 (4 * i_1091)) + 2))).toNat)).toUInt32) ((8 : UInt64)).toNat)) ||| (nth b_1048 (((w64 ((w64 (4 * i_1091)) + 3))).toNat)).toUInt32)))) fun (f_1111 : Arr UInt32 64) =>
              some (.inl (((w64 (i_1091 + 1)), f_1111)))
            else none
          else none
        else none
      else none
    else none
  else
    some (.inr f_1092)
def r02_schedule_b2 (i_1217 : Int) (f_1218 : Arr UInt32 64) : Option ((Int × Arr UInt32 64) ⊕ (Arr UInt32 64)) :=
  if (decide (i_1217 < 64)) = true then
    if InR ((w64 (i_1217 - 15))) 64 then
      (r02_rotr ((f_1218.get (((w64 (i_1217 - 15))).toNat))) 7).bind fun y_1248 =>
      if InR ((w64 (i_1217 - 15))) 64 then
        (r02_rotr ((f_1218.get (((w64 (i_1217 - 15))).toNat))) 18).bind fun y_1249 =>
        if InR ((w64 (i_1217 - 15))) 64 then
          lt1 (((y_1248 ^^^ y_1249) ^^^ (shr32 ((f_1218.get (((w64 (i_1217 - 15))).toNat))) ((3 : UInt64)).toNat))) fun (s0_1255 : UInt32) =>
          if InR ((w64 (i_1217 - 2))) 64 then
            (r02_rotr ((f_1218.get (((w64 (i_1217 - 2))).toNat))) 17).bind fun y_1257 =>
            if InR ((w64 (i_1217 - 2))) 64 then
              (r02_rotr ((f_1218.get (((w64 (i_1217 - 2))).toNat))) 19).bind fun y_1258 =>
              if InR ((w64 (i_1217 - 2))) 64 then
                lt1 (((y_1257 ^^^ y_1258) ^^^ (shr32 ((f_1218.get (((w64 (i_1217 - 2))).toNat))) ((10 : UInt64)).toNat))) fun (s1_1264 : UInt32) =>
                if InR ((w64 (i_1217 - 16))) 64 then
                  if InR ((w64 (i_1217 - 7))) 64 then
                    if InR i_1217 64 then
                      lt1 ((f_1218.set i_1217.toNat (((((f_1218.get (((w64 (i_1217 - 16))).toNat)) + s0_1255) + (f_1218.get (((w64 (i_1217 - 7))).toNat))) + s1_1264)))) fun (f_1269 : Arr UInt32 64) =>
                      some (.inl (((w64 (i_1217 + 1)), f_1269)))
                    else none
                  else none
                else none
              else none
            else none
          else none
        else none
      else none
    else none
  else
    some (.inr f_1218)
def r02_schedule (b_1048 : List UInt8) : Option (Arr UInt32 64) :=
  lt1 ((⟨[(0 : UInt32), (0 : UInt32), (0 : UInt32), (0 : UInt32), (0 : UInt32), (0 : UInt32), (0 : UInt32), (0 : UInt32), (0 : UInt32), (0 : UInt32), (0 : UInt32), (0 : UInt32), (0 : UInt32), (0 : UInt32), (0 : UInt32), (0 : UInt32), (0 : UInt32), (0 : UInt32), (0 : UInt32), (0 : UInt32), (0 : UInt32), (0 : UInt32), (0 : UInt32), (0 : UInt32), (0 : UInt32), (0 : UInt32), (0 : UInt32), (0 : UInt32), (0 : UInt32), (0 : UInt32), (0 : UInt32), (0 : UInt32), (0 : UInt32), (0 : UInt32), (0 : UInt32), (0 : UInt32), (0 : UInt32), (0 : UInt32), (0 : UInt32), (0 : UInt32), (0 : UInt32), (0 : UInt32), (0 : UInt32), (0 : UInt32), (0 : UInt32), (0 : UInt32), (0 : UInt32), (0 : UInt32), (0 : UInt32), (0 : UInt32), (0 : UInt32), (0 : UInt32), (0 : UInt32), (0 : UInt32), (0 : UInt32), (0 : UInt32), (0 : UInt32), (0 : UInt32), (0 : UInt32), (0 : UInt32), (0 : UInt32), (0 : UInt32), (0 : UInt32), (0 : UInt32)], rfl⟩ : Arr UInt32 64)) fun (f_1049 : Arr UInt32 64) =>
  ((loopO (fun (v : Int × Arr UInt32 64) => r02_schedule_b1 b_1048 v.1 v.2) ((0, f_1049))).bind fun f_1100 =>
  some f_1100 : Option (Arr UInt32 64)).bind fun f_1080 =>
  ((loopO (fun (v : Int × Arr UInt32 64) => r02_schedule_b2 v.1 v.2) ((16, f_1080))).bind fun f_1242 =>
  some f_1242 : Option (Arr UInt32 64)).bind fun f_1190 =>
  some f_1190

def r02_block_b1 (y_1273 : Arr UInt32 64) (y_1275 : Arr UInt32 64) (i_1489 : Int) (f_1490 : Arr UInt32 8) : Option ((Int × Arr UInt32 8) ⊕ (Arr UInt32 8)) :=
  if (decide (i_1489 < 64)) = true then
    (r02_rotr ((f_1490.get 4)) 6).bind fun y_1547 =>
    (r02_rotr ((f_1490.get 4)) 11).bind fun y_1548 =>
    (r02_rotr ((f_1490.get 4)) 25).bind fun y_1549 =>
    lt1 (((y_1547 ^^^ y_1548) ^^^ y_1549)) fun (s1_1556 : UInt32) =>
    lt1 ((((f_1490.get 4) &&& (f_1490.get 5)) ^^^ ((~~~(f_1490.get 4)) &&& (f_1490.get 6)))) fun (choice_1562 : UInt32) =>
    if InR i_1489 64 then
      if InR i_1489 64 then
        lt1 ((((((f_1490.get 7) + s1_1556) + choice_1562) + (y_1275.get i_1489.toNat)) + (y_1273.get i_1489.toNat))) fun (t1_1567 : UInt32) =>
        (r02_rotr ((f_1490.get 0)) 2).bind fun y_1569 =>
        (r02_rotr ((f_1490.get 0)) 13).bind fun y_1570 =>
        (r02_rotr ((f_1490.get 0)) 22).bind fun y_1571 =>
        lt1 (((y_1569 ^^^ y_1570) ^^^ y_1571)) fun (s0_1578 : UInt32) =>
        lt1 (((((f_1490.get 0) &&& (f_1490.get 1)) ^^^ ((f_1490.get 0) &&& (f_1490.get 2))) ^^^ ((f_1490.get 1) &&& (f_1490.get 2)))) fun (majority_1586 : UInt32) =>
        lt1 ((⟨[(t1_1567 + (s0_1578 + majority_1586)), (f_1490.get 0), (f_1490.get 1), (f_1490.get 2), ((f_1490.get 3) + t1_1567), (f_1490.get 4), (f_1490.get 5), (f_1490.get 6)], rfl⟩ : Arr UInt32 8)) fun (f_1595 : Arr UInt32 8) =>
        some (.inl (((w64 (i_1489 + 1)), f_1595)))
      else none
    else none
  else
    some (.inr f_1490)
def r02_block_b2 (f_1435 : Arr UInt32 8) (i_1629 : Int) (f_1630 : Arr UInt32 8) : Option ((Int × Arr UInt32 8) ⊕ (Arr UInt32 8)) :=
  if (decide (i_1629 < 8)) = true then
    if InR i_1629 8 then
      if InR i_1629 8 then
        if InR i_1629 8 then
          lt1 ((f_1630.set i_1629.toNat (((f_1630.get i_1629.toNat) + (f_1435.get i_1629.toNat))))) fun (f_1645 : Arr UInt32 8) =>
          some (.inl (((w64 (i_1629 + 1)), f_1645)))
        else none
      else none
    else none
  else
    some (.inr f_1630)
def r02_block (h_1271 : Arr UInt32 8) (b_1272 : List UInt8) : Option (Arr UInt32 8) :=
  (r02_schedule b_1272).bind fun y_1273 =>
  r02_constants.bind fun y_1275 =>
  ((loopO (fun (v : Int × Arr UInt32 8) => r02_block_b1 y_1273 y_1275 v.1 v.2) ((0, h_1271))).bind fun f_1541 =>
  some f_1541 : Option (Arr UInt32 8)).bind fun f_1435 =>
  ((loopO (fun (v : Int × Arr UInt32 8) => r02_block_b2 f_1435 v.1 v.2) ((0, h_1271))).bind fun f_1636 =>
  some f_1636 : Option (Arr UInt32 8)).bind fun f_1620 =>
  some f_1620

def digest_block_b1 (b_1648 : List UInt8) (t_1689 : Int) (f_1690 : Arr UInt32 64) : Option ((Int × Arr UInt32 64) ⊕ (Arr UInt32 64)) :=
  if (decide (t_1689 < 16)) = true then
    if InR ((w64 (4 * t_1689))) b_1648.length then
      if InR ((w64 ((w64 (4 * t_1689)) + 1))) b_1648.length then
        if InR ((w64 ((w64 (4 * t_1689)) + 2))) b_1648.length then
          if InR ((w64 ((w64 (4 * t_1689)) + 3))) b_1648.length then
            if InR t_1689 64 then
              lt1 ((f_1690.set t_1689.toNat (((((shl32 ((nth b_1648 (((w64 (4 * t_1689))).toNat)).toUInt32) ((24 : UInt64)).toNat) ||| (shl32 ((nth b_1648 (((w64 ((w64 (4 * t_1689)) + 1))).toNat)).toUInt32) ((16 : UInt64)).toNat)) ||| (shl32 ((nth b_1648 (((w64 ((w64 (4 * t_1689)) + 2))).toNat)).toUInt32) ((8 : UInt64)).toNat)) ||| (nth b_1648 (((w64 ((w64 (4 * t_1689)) + 3))).toNat)).toUInt32)))) fun (f_1709 : Arr UInt32 64) =>
              some (.inl (((w64 (t_1689 + 1)), f_1709)))
            else none
          else none
        else none
      else none
    else none
  else
    some (.inr f_1690)
def digest_block_b2 (i_1815 : Int) (f_1816 : Arr UInt32 64) : Option ((Int × Arr UInt32 64) ⊕ (Arr UInt32 64)) :=
  if (decide (i_1815 < 64)) = true then
    if InR ((w64 (i_1815 - 15))) 64 then
      if InR ((w64 (i_1815 - 2))) 64 then
        lt1 ((f_1816.get (((w64 (i_1815 - 15))).toNat))) fun (x_1848 : UInt32) =>
        lt1 ((f_1816.get (((w64 (i_1815 - 2))).toNat))) fun (y_1849 : UInt32) =>
        (bits_RotateLeft32 x_1848 ((-7))).bind fun y_1852 =>
        (bits_RotateLeft32 x_1848 ((-18))).bind fun y_1853 =>
        lt1 (((y_1852 ^^^ y_1853) ^^^ (shr32 x_1848 ((3 : UInt64)).toNat))) fun (s0_1856 : UInt32) =>
        (bits_RotateLeft32 y_1849 ((-17))).bind fun y_1858 =>
        (bits_RotateLeft32 y_1849 ((-19))).bind fun y_1859 =>
        lt1 (((y_1858 ^^^ y_1859) ^^^ (shr32 y_1849 ((10 : UInt64)).toNat))) fun (s1_1862 : UInt32) =>
        if InR ((w64 (i_1815 - 16))) 64 then
          if InR ((w64 (i_1815 - 7))) 64 then
            if InR i_1815 64 then
              lt1 ((f_1816.set i_1815.toNat (((((f_1816.get (((w64 (i_1815 - 16))).toNat)) + s0_1856) + (f_1816.get (((w64 (i_1815 - 7))).toNat))) + s1_1862)))) fun (f_1867 : Arr UInt32 64) =>
              some (.inl (((w64 (i_1815 + 1)), f_1867)))
            else none
          else none
        else none
      else none
    else none
  else
    some (.inr f_1816)
def digest_block_b3 (f_1788 : Arr UInt32 64) (t_2017 : Int) (f_2018 : Arr UInt32 8) : Option ((Int × Arr UInt32 8) ⊕ (Arr UInt32 8)) :=
  if (decide (t_2017 < 64)) = true then
    (bits_RotateLeft32 ((f_2018.get 4)) ((-6))).bind fun y_2061 =>
    (bits_RotateLeft32 ((f_2018.get 4)) ((-11))).bind fun y_2062 =>
    (bits_RotateLeft32 ((f_2018.get 4)) ((-25))).bind fun y_2063 =>
    if InR t_2017 64 then
      if InR t_2017 64 then
        lt1 ((((((f_2018.get 7) + ((y_2061 ^^^ y_2062) ^^^ y_2063)) + (((f_2018.get 4) &&& (f_2018.get 5)) ^^^ ((~~~(f_2018.get 4)) &&& (f_2018.get 6)))) + (glob0.get t_2017.toNat)) + (f_1788.get t_2017.toNat))) fun (t_2072 : UInt32) =>
        (bits_RotateLeft32 ((f_2018.get 0)) ((-2))).bind fun y_2074 =>
        (bits_RotateLeft32 ((f_2018.get 0)) ((-13))).bind fun y_2075 =>
        (bits_RotateLeft32 ((f_2018.get 0)) ((-22))).bind fun y_2076 =>
        lt1 ((((y_2074 ^^^ y_2075) ^^^ y_2076) + ((((f_2018.get 0) &&& (f_2018.get 1)) ^^^ ((f_2018.get 0) &&& (f_2018.get 2))) ^^^ ((f_2018.get 1) &&& (f_2018.get 2))))) fun (u_2084 : UInt32) =>
        lt1 ((⟨[(t_2072 + u_2084), (f_2018.get 0), (f_2018.get 1), (f_2018.get 2), ((f_2018.get 3) + t_2072), (f_2018.get 4), (f_2018.get 5), (f_2018.get 6)], rfl⟩ : Arr UInt32 8)) fun (f_2091 : Arr UInt32 8) =>
        some (.inl (((w64 (t_2017 + 1)), f_2091)))
      else none
    else none
  else
    some (.inr f_2018)
def digest_block_b4 (f_1979 : Arr UInt32 8) (t_2125 : Int) (f_2126 : Arr UInt32 8) : Option ((Int × Arr UInt32 8) ⊕ (Arr UInt32 8)) :=
  if (decide (t_2125 < 8)) = true then
    if InR t_2125 8 then
      if InR t_2125 8 then
        if InR t_2125 8 then
          lt1 ((f_2126.set t_2125.toNat (((f_2126.get t_2125.toNat) + (f_1979.get t_2125.toNat))))) fun (f_2141 : Arr UInt32 8) =>
          some (.inl (((w64 (t_2125 + 1)), f_2141)))
        else none
      else none
    else none
  else
    some (.inr f_2126)
def digest_block (h_1647 : Arr UInt32 8) (b_1648 : List UInt8) : Option (Arr UInt32 8) :=
  ((loopO (fun (v : Int × Arr UInt32 64) => digest_block_b1 b_1648 v.1 v.2) ((0, (Arr.rep 64 (0 : UInt32))))).bind fun f_1698 =>
  some f_1698 : Option (Arr UInt32 64)).bind fun f_1678 =>
  ((loopO (fun (v : Int × Arr UInt32 64) => digest_block_b2 v.1 v.2) ((16, f_1678))).bind fun f_1840 =>
  some f_1840 : Option (Arr UInt32 64)).bind fun f_1788 =>
  ((loopO (fun (v : Int × Arr UInt32 8) => digest_block_b3 f_1788 v.1 v.2) ((0, h_1647))).bind fun f_2053 =>
  some f_2053 : Option (Arr UInt32 8)).bind fun f_1979 =>
  ((loopO (fun (v : Int × Arr UInt32 8) => digest_block_b4 f_1979 v.1 v.2) ((0, h_1647))).bind fun f_2132 =>
  some f_2132 : Option (Arr UInt32 8)).bind fun f_2116 =>
  some f_2116

def r02_padded_b1 (l_2179 : List UInt8) : Option ((List UInt8) ⊕ (List UInt8)) :=
  if ((((l_2179.length : Int) : Int).tmod 64) != 56) = true then
    if Fits (l_2179.length + 1) 1 then
      lt1 ((l_2179 ++ (([(0 : UInt8)] : List UInt8)))) fun (l_2192 : List UInt8) =>
      some (.inl l_2192)
    else none
  else
    some (.inr l_2179)
def r02_padded_b2 (n_2194 : UInt64) (i_2224 : Int) (l_2225 : List UInt8) : Option ((Int × List UInt8) ⊕ (List UInt8)) :=
  if (decide (i_2224 < 8)) = true then
    if NotNeg ((w64 (56 - (w64 (8 * i_2224))))) then
      if Fits (l_2225.length + 1) 1 then
        lt1 ((l_2225 ++ (([((shr64 n_2194 (((w64 (56 - (w64 (8 * i_2224))))).toNat))).toUInt8] : List UInt8)))) fun (l_2238 : List UInt8) =>
        some (.inl (((w64 (i_2224 + 1)), l_2238)))
      else none
    else none
  else
    some (.inr l_2225)
def r02_padded (b_2143 : List UInt8) : Option (List UInt8) :=
  lt1 (([] : List UInt8)) fun (l_2144 : List UInt8) =>
  if Fits (l_2144.length + b_2143.length) 1 then
    lt1 ((l_2144 ++ b_2143)) fun (l_2147 : List UInt8) =>
    if Fits (l_2147.length + 1) 1 then
      lt1 ((l_2147 ++ (([(128 : UInt8)] : List UInt8)))) fun (l_2150 : List UInt8) =>
      ((loopO (fun (v : List UInt8) => r02_padded_b1 v) l_2150).bind fun l_2184 =>
      some l_2184 : Option (List UInt8)).bind fun l_2171 =>
      lt1 (((UInt64.ofInt ((b_2143.length : Int))) * (8 : UInt64))) fun (n_2194 : UInt64) =>
      ((loopO (fun (v : Int × List UInt8) => r02_padded_b2 n_2194 v.1 v.2) ((0, l_2171))).bind fun l_2230 =>
      some l_2230 : Option (List UInt8)).bind fun l_2216 =>
      some l_2216
    else none
  else none

def digest_sum_b1 (parts_2240 : List (List UInt8)) (t_2273 : Int) (l_2274 : List UInt8) : Option ((Int × List UInt8) ⊕ (List UInt8)) :=
  if (decide (t_2273 < (parts_2240.length : Int))) = true then
    if InR t_2273 parts_2240.length then
      lt1 (nth parts_2240 t_2273.toNat) fun (p_2288 : List UInt8) =>
      if Fits (l_2274.length + p_2288.length) 1 then
        lt1 ((l_2274 ++ p_2288)) fun (l_2291 : List UInt8) =>
        some (.inl (((w64 (t_2273 + 1)), l_2291)))
      else none
    else none
  else
    some (.inr l_2274)
def digest_sum_b2 (l_2325 : List UInt8) : Option ((List UInt8) ⊕ (List UInt8)) :=
  if ((((l_2325.length : Int) : Int).tmod 64) != 56) = true then
    if Fits (l_2325.length + 1) 1 then
      lt1 ((l_2325 ++ (([(0 : UInt8)] : List UInt8)))) fun (l_2338 : List UInt8) =>
      some (.inl l_2338)
    else none
  else
    some (.inr l_2325)
def digest_sum_b3 (n_2293 : UInt64) (i_2368 : Int) (l_2369 : List UInt8) : Option ((Int × List UInt8) ⊕ (List UInt8)) :=
  if (decide (i_2368 ≥ 0)) = true then
    if NotNeg i_2368 then
      if Fits (l_2369.length + 1) 1 then
        lt1 ((l_2369 ++ (([((shr64 n_2293 i_2368.toNat)).toUInt8] : List UInt8)))) fun (l_2382 : List UInt8) =>
        some (.inl (((w64 (i_2368 - 8)), l_2382)))
      else none
    else none
  else
    some (.inr l_2369)
def digest_sum_b4 (l_2360 : List UInt8) (m_2415 : Nat) (m_2416 : Nat) (f_2417 : Arr UInt32 8) : Option ((Nat × Nat × Arr UInt32 8) ⊕ (Arr UInt32 8)) :=
  if (decide ((m_2416 : Int) > 0)) = true then
    if InB 64 m_2416 then
      (digest_block f_2417 (((l_2360.drop m_2415).take 64))).bind fun y_2428 =>
      if InB 64 m_2416 then
        some (.inl (((m_2415 + 64), (m_2416 - 64), y_2428)))
      else none
    else none
  else
    some (.inr f_2417)
def digest_sum_b5 (f_2407 : Arr UInt32 8) (t_2472 : Int) (f_2473 : Arr UInt8 32) : Option ((Int × Arr UInt8 32) ⊕ (Arr UInt8 32)) :=
  if (decide (t_2472 < 32)) = true then
    if InR ((w64 ((t_2472 : Int).tdiv 4))) 8 then
      if NotNeg ((w64 (24 - (w64 (8 * ((t_2472 : Int).tmod 4)))))) then
        if InR t_2472 32 then
          lt1 ((f_2473.set t_2472.toNat (((shr32 ((f_2407.get (((w64 ((t_2472 : Int).tdiv 4))).toNat))) (((w64 (24 - (w64 (8 * ((t_2472 : Int).tmod 4)))))).toNat))).toUInt8))) fun (f_2492 : Arr UInt8 32) =>
          some (.inl (((w64 (t_2472 + 1)), f_2492)))
        else none
      else none
    else none
  else
    some (.inr f_2473)
def digest_sum (parts_2240 : List (List UInt8)) : Option (Arr UInt8 32) :=
  ((loopO (fun (v : Int × List UInt8) => digest_sum_b1 parts_2240 v.1 v.2) ((0, []))).bind fun l_2281 =>
  some l_2281 : Option (List UInt8)).bind fun l_2265 =>
  lt1 (((UInt64.ofInt ((l_2265.length : Int))) * (8 : UInt64))) fun (n_2293 : UInt64) =>
  if Fits (l_2265.length + 1) 1 then
    lt1 ((l_2265 ++ (([(128 : UInt8)] : List UInt8)))) fun (l_2296 : List UInt8) =>
    ((loopO (fun (v : List UInt8) => digest_sum_b2 v) l_2296).bind fun l_2330 =>
    some l_2330 : Option (List UInt8)).bind fun l_2317 =>
    ((loopO (fun (v : Int × List UInt8) => digest_sum_b3 n_2293 v.1 v.2) ((56, l_2317))).bind fun l_2374 =>
    some l_2374 : Option (List UInt8)).bind fun l_2360 =>
    lt1 ((⟨[(1779033703 : UInt32), (3144134277 : UInt32), (1013904242 : UInt32), (2773480762 : UInt32), (1359893119 : UInt32), (2600822924 : UInt32), (528734635 : UInt32), (1541459225 : UInt32)], rfl⟩ : Arr UInt32 8)) fun (f_2384 : Arr UInt32 8) =>
    ((loopO (fun (v : Nat × Nat × Arr UInt32 8) => digest_sum_b4 l_2360 v.1 v.2.1 v.2.2) ((0, l_2360.length, f_2384))).bind fun f_2422 =>
    some f_2422 : Option (Arr UInt32 8)).bind fun f_2407 =>
    ((loopO (fun (v : Int × Arr UInt8 32) => digest_sum_b5 f_2407 v.1 v.2) ((0, (Arr.rep 32 (0 : UInt8))))).bind fun f_2481 =>
    some f_2481 : Option (Arr UInt8 32)).bind fun f_2461 =>
    some f_2461
  else none

def digest_Sum (b_2494 : List UInt8) : Option (Arr UInt8 32) :=
  (digest_sum (([b_2494] : List (List UInt8)))).bind fun y_2495 =>
  some y_2495

def r02_Sum_b1 (y_2500 : List UInt8) (at_2530 : Int) (f_2531 : Arr UInt32 8) : Option ((Int × Arr UInt32 8) ⊕ (Arr UInt32 8)) :=
  if (decide (at_2530 < (y_2500.length : Int))) = true then
    if InB ((w64 (at_2530 + 64))) y_2500.length then
      if InB at_2530 (((w64 (at_2530 + 64))).toNat) then
        (r02_block f_2531 (((y_2500.drop at_2530.toNat).take (((w64 (at_2530 + 64))).toNat - at_2530.toNat)))).bind fun y_2542 =>
        some (.inl (((w64 (at_2530 + 64)), y_2542)))
      else none
    else none
  else
    some (.inr f_2531)
def r02_Sum_b2 (f_2522 : Arr UInt32 8) (i_2588 : Int) (f_2589 : Arr UInt8 32) : Option ((Int × Arr UInt8 32) ⊕ (Arr UInt8 32)) :=
  if (decide (i_2588 < 32)) = true then
    if InR ((w64 ((i_2588 : Int).tdiv 4))) 8 then
      if NotNeg ((w64 (24 - (w64 (8 * ((i_2588 : Int).tmod 4)))))) then
        if InR i_2588 32 then
          lt1 ((f_2589.set i_2588.toNat (((shr32 ((f_2522.get (((w64 ((i_2588 : Int).tdiv 4))).toNat))) (((w64 (24 - (w64 (8 * ((i_2588 : Int).tmod 4)))))).toNat))).toUInt8))) fun (f_2608 : Arr UInt8 32) =>
          some (.inl (((w64 (i_2588 + 1)), f_2608)))
        else none
      else none
    else none
  else
    some (.inr f_2589)
def r02_Sum (b_2497 : List UInt8) : Option (Arr UInt8 32) :=
  lt1 ((⟨[(1779033703 : UInt32), (3144134277 : UInt32), (1013904242 : UInt32), (2773480762 : UInt32), (1359893119 : UInt32), (2600822924 : UInt32), (528734635 : UInt32), (1541459225 : UInt32)], rfl⟩ : Arr UInt32 8)) fun (f_2498 : Arr UInt32 8) =>
  (r02_padded b_2497).bind fun y_2500 =>
  ((loopO (fun (v : Int × Arr UInt32 8) => r02_Sum_b1 y_2500 v.1 v.2) ((0, f_2498))).bind fun f_2536 =>
  some f_2536 : Option (Arr UInt32 8)).bind fun f_2522 =>
  lt1 ((⟨[(0 : UInt8), (0 : UInt8), (0 : UInt8), (0 : UInt8), (0 : UInt8), (0 : UInt8), (0 : UInt8), (0 : UInt8), (0 : UInt8), (0 : UInt8), (0 : UInt8), (0 : UInt8), (0 : UInt8), (0 : UInt8), (0 : UInt8), (0 : UInt8), (0 : UInt8), (0 : UInt8), (0 : UInt8), (0 : UInt8), (0 : UInt8), (0 : UInt8), (0 : UInt8), (0 : UInt8), (0 : UInt8), (0 : UInt8), (0 : UInt8), (0 : UInt8), (0 : UInt8), (0 : UInt8), (0 : UInt8), (0 : UInt8)], rfl⟩ : Arr UInt8 32)) fun (f_2546 : Arr UInt8 32) =>
  ((loopO (fun (v : Int × Arr UInt8 32) => r02_Sum_b2 f_2522 v.1 v.2) ((0, f_2546))).bind fun f_2597 =>
  some f_2597 : Option (Arr UInt8 32)).bind fun f_2577 =>
  some f_2577

def digest_Tagged (tag_2610 : List UInt8) (b_2611 : List UInt8) : Option (Arr UInt8 32) :=
  if InB ((mn64 ((tag_2610.length : Int)) 255)) tag_2610.length then
    lt1 ((tag_2610.take (((mn64 ((tag_2610.length : Int)) 255)).toNat))) fun (tag_2613 : List UInt8) =>
    (digest_sum (([([(UInt8.ofInt ((tag_2613.length : Int)))] : List UInt8), tag_2613, b_2611] : List (List UInt8)))).bind fun y_2615 =>
    some y_2615
  else none

def r02_Hashed (tag_2617 : List UInt8) (b_2618 : List UInt8) : Option (List UInt8) :=
  if InB ((mn64 ((tag_2617.length : Int)) 255)) tag_2617.length then
    lt1 ((tag_2617.take (((mn64 ((tag_2617.length : Int)) 255)).toNat))) fun (t_2620 : List UInt8) =>
    lt1 (([(UInt8.ofInt ((t_2620.length : Int)))] : List UInt8)) fun (l_2622 : List UInt8) =>
    if Fits (l_2622.length + t_2620.length) 1 then
      lt1 ((l_2622 ++ t_2620)) fun (l_2625 : List UInt8) =>
      if Fits (l_2625.length + b_2618.length) 1 then
        lt1 ((l_2625 ++ b_2618)) fun (l_2628 : List UInt8) =>
        some l_2628
      else none
    else none
  else none

def r02_Tagged (tag_2630 : List UInt8) (b_2631 : List UInt8) : Option (Arr UInt8 32) :=
  (r02_Hashed tag_2630 b_2631).bind fun y_2632 =>
  (r02_Sum y_2632).bind fun y_2633 =>
  some y_2633

def digest_Next (d_2636 : Arr UInt8 32) (b_2637 : List UInt8) : Option (Arr UInt8 32) :=
  (digest_sum (([([(4 : UInt8)] : List UInt8), ([(110 : UInt8), (101 : UInt8), (120 : UInt8), (116 : UInt8)] : List UInt8), d_2636.l, b_2637] : List (List UInt8)))).bind fun y_2638 =>
  some y_2638

def r02_Next (d_2640 : Arr UInt8 32) (b_2641 : List UInt8) : Option (Arr UInt8 32) :=
  lt1 (([] : List UInt8)) fun (l_2642 : List UInt8) =>
  if Fits (l_2642.length + d_2640.l.length) 1 then
    lt1 ((l_2642 ++ d_2640.l)) fun (l_2645 : List UInt8) =>
    if Fits (l_2645.length + b_2641.length) 1 then
      lt1 ((l_2645 ++ b_2641)) fun (l_2648 : List UInt8) =>
      (r02_Tagged (([110, 101, 120, 116] : List UInt8)) l_2648).bind fun y_2650 =>
      some y_2650
    else none
  else none

def digest_Number_b1 (d_2652 : Arr UInt8 32) (n_2683 : UInt64) (t_2684 : Int) : Option ((UInt64 × Int) ⊕ (UInt64)) :=
  if (decide (t_2684 < (((d_2652.l.take 8)).length : Int))) = true then
    if InR t_2684 (((d_2652.l.take 8)).length) then
      lt1 (nth ((d_2652.l.take 8)) t_2684.toNat) fun (b_2697 : UInt8) =>
      lt1 (((shl64 n_2683 ((8 : UInt64)).toNat) ||| b_2697.toUInt64)) fun (n_2699 : UInt64) =>
      some (.inl ((n_2699, (w64 (t_2684 + 1)))))
    else none
  else
    some (.inr n_2683)
def digest_Number (d_2652 : Arr UInt8 32) : Option (UInt64) :=
  ((loopO (fun (v : UInt64 × Int) => digest_Number_b1 d_2652 v.1 v.2) (((0 : UInt64), 0))).bind fun n_2690 =>
  some n_2690 : Option (UInt64)).bind fun n_2675 =>
  some n_2675

def r02_Number_b1 (d_2701 : Arr UInt8 32) (n_2726 : UInt64) (i_2727 : Int) : Option ((UInt64 × Int) ⊕ (UInt64)) :=
  if (decide (i_2727 < 8)) = true then
    if InR i_2727 32 then
      lt1 (((shl64 n_2726 ((8 : UInt64)).toNat) ||| ((d_2701.get i_2727.toNat)).toUInt64)) fun (n_2738 : UInt64) =>
      some (.inl ((n_2738, (w64 (i_2727 + 1)))))
    else none
  else
    some (.inr n_2726)
def r02_Number (d_2701 : Arr UInt8 32) : Option (UInt64) :=
  ((loopO (fun (v : UInt64 × Int) => r02_Number_b1 d_2701 v.1 v.2) (((0 : UInt64), 0))).bind fun n_2731 =>
  some n_2731 : Option (UInt64)).bind fun n_2719 =>
  some n_2719

def r02_Same (a_2740 : List UInt8) (b_2741 : List UInt8) : Option (Bool) :=
  some ((a_2740 == b_2741))

def digest_Value (tag_2742 : List UInt8) (v_2743 : Api_Value) : Option (Arr UInt8 32 × Int) :=
  (codec_Encode v_2743).bind fun y_2744 =>
  if (y_2744.2 != 0) = true then
    lt1 ((⟨[(0 : UInt8), (0 : UInt8), (0 : UInt8), (0 : UInt8), (0 : UInt8), (0 : UInt8), (0 : UInt8), (0 : UInt8), (0 : UInt8), (0 : UInt8), (0 : UInt8), (0 : UInt8), (0 : UInt8), (0 : UInt8), (0 : UInt8), (0 : UInt8), (0 : UInt8), (0 : UInt8), (0 : UInt8), (0 : UInt8), (0 : UInt8), (0 : UInt8), (0 : UInt8), (0 : UInt8), (0 : UInt8), (0 : UInt8), (0 : UInt8), (0 : UInt8), (0 : UInt8), (0 : UInt8), (0 : UInt8), (0 : UInt8)], rfl⟩ : Arr UInt8 32)) fun (f_2746 : Arr UInt8 32) =>
    some ((f_2746, y_2744.2))
  else
    (digest_Tagged tag_2742 y_2744.1).bind fun y_2748 =>
    some ((y_2748, 0))

def law02_vector (d_2750 : Arr UInt8 32) (a_2751 : UInt8) (b_2752 : UInt8) (c_2753 : UInt8) (e_2754 : UInt8) (last_2755 : UInt8) : Option (Bool) :=
  (if ((d_2750.get 0) == a_2751) = true then
    if ((d_2750.get 1) == b_2752) = true then
      if ((d_2750.get 2) == c_2753) = true then
        if ((d_2750.get 3) == e_2754) = true then
          some (((d_2750.get 31) == last_2755))
        else
          some false
      else
        some false
    else
      some false
  else
    some false : Option (Bool)).bind fun t_2756 =>
  some t_2756

def law02_sane  : Option (Bool) :=
  lt1 ((⟨[(0 : UInt8), (0 : UInt8), (0 : UInt8), (0 : UInt8), (0 : UInt8), (0 : UInt8), (0 : UInt8), (0 : UInt8), (0 : UInt8), (0 : UInt8), (0 : UInt8), (0 : UInt8), (0 : UInt8), (0 : UInt8), (0 : UInt8), (0 : UInt8), (0 : UInt8), (0 : UInt8), (0 : UInt8), (0 : UInt8), (0 : UInt8), (0 : UInt8), (0 : UInt8), (0 : UInt8), (0 : UInt8), (0 : UInt8), (0 : UInt8), (0 : UInt8), (0 : UInt8), (0 : UInt8), (0 : UInt8), (0 : UInt8)], rfl⟩ : Arr UInt8 32)) fun (f_2767 : Arr UInt8 32) =>
  lt1 ((⟨[(0 : UInt8), (0 : UInt8), (0 : UInt8), (0 : UInt8), (0 : UInt8), (0 : UInt8), (0 : UInt8), (0 : UInt8), (0 : UInt8), (0 : UInt8), (0 : UInt8), (0 : UInt8), (0 : UInt8), (0 : UInt8), (0 : UInt8), (0 : UInt8), (0 : UInt8), (0 : UInt8), (0 : UInt8), (0 : UInt8), (0 : UInt8), (0 : UInt8), (0 : UInt8), (0 : UInt8), (0 : UInt8), (0 : UInt8), (0 : UInt8), (0 : UInt8), (0 : UInt8), (0 : UInt8), (0 : UInt8), (0 : UInt8)], rfl⟩ : Arr UInt8 32)) fun (f_2769 : Arr UInt8 32) =>
  lt1 ((f_2769.set 6 ((1 : UInt8)))) fun (f_2772 : Arr UInt8 32) =>
  lt1 ((f_2772.set 7 ((2 : UInt8)))) fun (f_2775 : Arr UInt8 32) =>
  (digest_Value (([116] : List UInt8)) ((Api_Value.mk 1 0 ([]) ([])))).bind fun y_2777 =>
  (codec_Encode ((Api_Value.mk 1 0 ([]) ([])))).bind fun y_2779 =>
  (digest_Value (([116] : List UInt8)) ((Api_Value.mk 0 0 ([]) ([])))).bind fun y_2781 =>
  ((digest_Sum ([])).bind fun y_2783 =>
  (law02_vector y_2783 ((227 : UInt8)) ((176 : UInt8)) ((196 : UInt8)) ((66 : UInt8)) ((85 : UInt8))).bind fun y_2784 =>
  if y_2784 = true then
    (digest_Sum (([(97 : UInt8), (98 : UInt8), (99 : UInt8)] : List UInt8))).bind fun y_2785 =>
    (law02_vector y_2785 ((186 : UInt8)) ((120 : UInt8)) ((22 : UInt8)) ((191 : UInt8)) ((173 : UInt8))).bind fun y_2786 =>
    some y_2786
  else
    some false : Option (Bool)).bind fun sums_2787 =>
  ((digest_Tagged (([97] : List UInt8)) (([(98 : UInt8), (99 : UInt8)] : List UInt8))).bind fun y_2794 =>
  (digest_Sum (([(1 : UInt8), (97 : UInt8), (98 : UInt8), (99 : UInt8)] : List UInt8))).bind fun y_2795 =>
  if (y_2794 == y_2795) = true then
    (digest_Tagged (([] : List UInt8)) ([])).bind fun y_2796 =>
    (digest_Sum (([(0 : UInt8)] : List UInt8))).bind fun y_2797 =>
    some ((y_2796 == y_2797))
  else
    some false : Option (Bool)).bind fun tags_2798 =>
  ((digest_Next f_2767 ([])).bind fun y_2805 =>
  (digest_Tagged (([110, 101, 120, 116] : List UInt8)) f_2767.l).bind fun y_2806 =>
  if (y_2805 == y_2806) = true then
    (digest_Number f_2775).bind fun y_2807 =>
    some ((y_2807 == (258 : UInt64)))
  else
    some false : Option (Bool)).bind fun links_2808 =>
  (if sums_2787 = true then
    if tags_2798 = true then
      if links_2808 = true then
        if (y_2777.2 == 0) = true then
          if (y_2779.2 == 0) = true then
            (digest_Tagged (([116] : List UInt8)) y_2779.1).bind fun y_2814 =>
            if (y_2777.1 == y_2814) = true then
              some ((y_2781.2 == 10))
            else
              some false
          else
            some false
        else
          some false
      else
        some false
    else
      some false
  else
    some false : Option (Bool)).bind fun t_2815 =>
  some t_2815

def bytealg_Compare (a : List UInt8) (b : List UInt8) : Option (Int) := bytesCmpO a b

def bytes_Compare (a_2824 : List UInt8) (b_2825 : List UInt8) : Option (Int) :=
  (bytealg_Compare a_2824 b_2825).bind fun y_2826 =>
  some y_2826

def cmp_isNaN (x_2828 : Int) : Option (Bool) :=
  some ((x_2828 != x_2828))

def cmp_Compare (x_2829 : Int) (y_2830 : Int) : Option (Int) :=
  (cmp_isNaN x_2829).bind fun y_2831 =>
  (cmp_isNaN y_2830).bind fun y_2833 =>
  if y_2831 = true then
    if y_2833 = true then
      some 0
    else
      some ((-1))
  else
    if y_2833 = true then
      some 1
    else
      if (decide (x_2829 < y_2830)) = true then
        some ((-1))
      else
        if (decide (x_2829 > y_2830)) = true then
          some 1
        else
          some 0

def slices_CompareFunc_b1 (s1_2835 : List Api_Value) (s2_2836 : List Api_Value) (cmp_2837 : Api_Value → Api_Value → Option (Int)) (t_2911 : Int) : Option ((Int) ⊕ ((Unit) ⊕ ((Unit) ⊕ (Int)))) :=
  if (decide (t_2911 < (s1_2835.length : Int))) = true then
    if InR t_2911 s1_2835.length then
      lt1 ((nth s1_2835 t_2911.toNat).Kind) fun (f_2942 : Int) =>
      lt1 ((nth s1_2835 t_2911.toNat).N) fun (f_2943 : Int) =>
      lt1 ((nth s1_2835 t_2911.toNat).B) fun (f_2944 : List UInt8) =>
      lt1 ((nth s1_2835 t_2911.toNat).L) fun (f_2945 : List Api_Value) =>
      if (decide (t_2911 ≥ (s2_2836.length : Int))) = true then
        ((some 1).bind fun z_2950 => some (.inr z_2950)).bind fun z_2951 => some (.inr (.inr z_2951))
      else
        if InR t_2911 s2_2836.length then
          lt1 ((nth s2_2836 t_2911.toNat).Kind) fun (f_2953 : Int) =>
          lt1 ((nth s2_2836 t_2911.toNat).N) fun (f_2954 : Int) =>
          lt1 ((nth s2_2836 t_2911.toNat).B) fun (f_2955 : List UInt8) =>
          lt1 ((nth s2_2836 t_2911.toNat).L) fun (f_2956 : List Api_Value) =>
          (cmp_2837 ((Api_Value.mk f_2942 f_2943 f_2944 f_2945)) ((Api_Value.mk f_2953 f_2954 f_2955 f_2956))).bind fun y_2961 =>
          if (y_2961 != 0) = true then
            ((some y_2961).bind fun z_2963 => some (.inr z_2963)).bind fun z_2964 => some (.inr (.inr z_2964))
          else
            some (.inl ((w64 (t_2911 + 1))))
        else none
    else none
  else
    some (.inr (.inl (())))
def slices_CompareFunc (s1_2835 : List Api_Value) (s2_2836 : List Api_Value) (cmp_2837 : Api_Value → Api_Value → Option (Int)) : Option (Int) :=
  ((loopO (fun (v : Int) => slices_CompareFunc_b1 s1_2835 s2_2836 cmp_2837 v) 0).bind fun x => match x with
  | .inl () =>
    some (.inl (()))
  | .inr z => some z : Option ((Unit) ⊕ (Int))).bind fun x => match x with
  | .inl () =>
    if (decide ((s1_2835.length : Int) < (s2_2836.length : Int))) = true then
      some ((-1))
    else
      some 0
  | .inr z => some z

def codec_Compare_F (rec_ : Api_Value → Api_Value → Option (Int)) (a_2965 : Api_Value) (b_2966 : Api_Value) : Option (Int) :=
  (cmp_Compare a_2965.Kind b_2966.Kind).bind fun y_2967 =>
  if (y_2967 != 0) = true then
    some y_2967
  else
    if (a_2965.Kind == 1) = true then
      (cmp_Compare a_2965.N b_2966.N).bind fun y_2969 =>
      some y_2969
    else
      if (a_2965.Kind == 2) = true then
        (bytes_Compare a_2965.B b_2966.B).bind fun y_2971 =>
        some y_2971
      else
        if (a_2965.Kind == 3) = true then
          (slices_CompareFunc a_2965.L b_2966.L rec_).bind fun y_2973 =>
          some y_2973
        else
          some 0
def codec_Compare_n (n : Nat) : Api_Value → Api_Value → Option (Int) := match n with
  | 0 => fun _ _ => none
  | n + 1 => codec_Compare_F (codec_Compare_n n)
def codec_Compare (a_2965 : Api_Value) (b_2966 : Api_Value) : Option (Int) := codec_Compare_n 18446744073709551616 a_2965 b_2966

def law02_DigestSumMatchesReference (b_2975 : List UInt8) : Option (Bool) :=
  law02_sane.bind fun y_2976 =>
  if (!y_2976) = true then
    some false
  else
    if (decide ((b_2975.length : Int) > 1000)) = true then
      some true
    else
      (digest_Sum b_2975).bind fun y_2978 =>
      (r02_Sum b_2975).bind fun y_2979 =>
      some ((y_2978 == y_2979))

def law02_DigestMatchesReference (tag_2982 : List UInt8) (b_2983 : List UInt8) (d_2984 : Arr UInt8 32) : Option (Bool) :=
  law02_sane.bind fun y_2985 =>
  if (!y_2985) = true then
    some false
  else
    (if (decide ((tag_2982.length : Int) > 600)) = true then
      some true
    else
      some ((decide ((b_2983.length : Int) > 600))) : Option (Bool)).bind fun t_2987 =>
    if t_2987 = true then
      some true
    else
      ((digest_Tagged tag_2982 b_2983).bind fun y_2990 =>
      (r02_Tagged tag_2982 b_2983).bind fun y_2991 =>
      if (y_2990 == y_2991) = true then
        (digest_Next d_2984 b_2983).bind fun y_2992 =>
        (r02_Next d_2984 b_2983).bind fun y_2993 =>
        if (y_2992 == y_2993) = true then
          (digest_Number d_2984).bind fun y_2994 =>
          (r02_Number d_2984).bind fun y_2995 =>
          some ((y_2994 == y_2995))
        else
          some false
      else
        some false : Option (Bool)).bind fun t_2996 =>
      some t_2996

def law02_DigestTaggedIsSum (tag_3006 : List UInt8) (b_3007 : List UInt8) (d_3008 : Arr UInt8 32) : Option (Bool) :=
  law02_sane.bind fun y_3009 =>
  if (!y_3009) = true then
    some false
  else
    (if (decide ((tag_3006.length : Int) > 600)) = true then
      some true
    else
      some ((decide ((b_3007.length : Int) > 600))) : Option (Bool)).bind fun t_3011 =>
    if t_3011 = true then
      some true
    else
      lt1 (([] : List UInt8)) fun (l_3014 : List UInt8) =>
      if Fits (l_3014.length + d_3008.l.length) 1 then
        lt1 ((l_3014 ++ d_3008.l)) fun (l_3017 : List UInt8) =>
        if Fits (l_3017.length + b_3007.length) 1 then
          lt1 ((l_3017 ++ b_3007)) fun (l_3020 : List UInt8) =>
          ((digest_Tagged tag_3006 b_3007).bind fun y_3022 =>
          (r02_Hashed tag_3006 b_3007).bind fun y_3023 =>
          (digest_Sum y_3023).bind fun y_3024 =>
          if (y_3022 == y_3024) = true then
            (digest_Next d_3008 b_3007).bind fun y_3025 =>
            (digest_Tagged (([110, 101, 120, 116] : List UInt8)) l_3020).bind fun y_3026 =>
            some ((y_3025 == y_3026))
          else
            some false : Option (Bool)).bind fun t_3027 =>
          some t_3027
        else none
      else none

def law02_DigestTagsSeparate (tag_3035 : List UInt8) (b_3036 : List UInt8) (other_3037 : List UInt8) (c_3038 : List UInt8) : Option (Bool) :=
  law02_sane.bind fun y_3039 =>
  if (!y_3039) = true then
    some false
  else
    (if (decide ((tag_3035.length : Int) > 400)) = true then
      some true
    else
      if (decide ((b_3036.length : Int) > 400)) = true then
        some true
      else
        if (decide ((other_3037.length : Int) > 400)) = true then
          some true
        else
          some ((decide ((c_3038.length : Int) > 400))) : Option (Bool)).bind fun t_3041 =>
    if t_3041 = true then
      some true
    else
      (r02_Hashed tag_3035 b_3036).bind fun y_3046 =>
      (r02_Hashed other_3037 c_3038).bind fun y_3048 =>
      (if InB ((mn64 ((tag_3035.length : Int)) 255)) tag_3035.length then
        if InB ((mn64 ((other_3037.length : Int)) 255)) other_3037.length then
          if (((tag_3035.take (((mn64 ((tag_3035.length : Int)) 255)).toNat))) == ((other_3037.take (((mn64 ((other_3037.length : Int)) 255)).toNat)))) = true then
            (r02_Same b_3036 c_3038).bind fun y_3050 =>
            some y_3050
          else
            some false
        else none
      else none : Option (Bool)).bind fun same_3051 =>
      (digest_Tagged tag_3035 b_3036).bind fun y_3057 =>
      (digest_Tagged other_3037 c_3038).bind fun y_3058 =>
      ((r02_Same y_3046 y_3048).bind fun y_3061 =>
      if (!(same_3051 == y_3061)) = true then
        some true
      else
        if same_3051 = true then
          some ((!(y_3057 == y_3058)))
        else
          some false : Option (Bool)).bind fun t_3062 =>
      if t_3062 = true then
        some false
      else
        (digest_Sum y_3046).bind fun y_3068 =>
        (digest_Sum y_3048).bind fun y_3069 =>
        some (((y_3057 == y_3058) == (y_3068 == y_3069)))

def law02_DigestBindsValues (tag_3072 : List UInt8) (v_3073 : Api_Value) (w_3074 : Api_Value) : Option (Bool) :=
  law02_sane.bind fun y_3075 =>
  if (!y_3075) = true then
    some false
  else
    (codec_Encode v_3073).bind fun y_3077 =>
    (codec_Encode w_3074).bind fun y_3079 =>
    (if (y_3077.2 != 0) = true then
      some true
    else
      if (y_3079.2 != 0) = true then
        some true
      else
        if (decide ((tag_3072.length : Int) > 400)) = true then
          some true
        else
          if (decide ((y_3077.1.length : Int) > 600)) = true then
            some true
          else
            some ((decide ((y_3079.1.length : Int) > 600))) : Option (Bool)).bind fun t_3081 =>
    if t_3081 = true then
      some true
    else
      (digest_Value tag_3072 v_3073).bind fun y_3087 =>
      (digest_Value tag_3072 w_3074).bind fun y_3089 =>
      (codec_Compare v_3073 w_3074).bind fun y_3091 =>
      if (y_3091 == 0) = true then
        some ((y_3087.1 == y_3089.1))
      else
        (if (!(y_3087.1 == y_3089.1)) = true then
          some true
        else
          (r02_Hashed tag_3072 y_3077.1).bind fun y_3093 =>
          (digest_Sum y_3093).bind fun y_3094 =>
          (r02_Hashed tag_3072 y_3079.1).bind fun y_3095 =>
          (digest_Sum y_3095).bind fun y_3096 =>
          if (y_3094 == y_3096) = true then
            (r02_Same y_3077.1 y_3079.1).bind fun y_3097 =>
            some ((!y_3097))
          else
            some false : Option (Bool)).bind fun t_3098 =>
        some t_3098

end Go.Proofs.YtgdiabbgiiemcaaDoor
/-
  The functions compute just that.
-/
namespace Go.Proofs.YtgdiabbgiiemcaaDoor
open Go.Rv
set_option linter.unusedVariables false
set_option linter.unusedSimpArgs false
set_option maxRecDepth 20000

theorem bits_RotateLeft32_con {x_1 : UInt32} {k_2 : Int} {r : UInt32} (h : bits_RotateLeft32 x_1 k_2 = some r) : Con B 43 [u32 x_1, i64 k_2] [] (fun r' σ' => r' = u32 r ∧ σ' = []) := by
  refine con_walk (N := 17) (rs := [.tmp 4]) ok Tryd.func43 rfl (by decide +kernel) rfl rfl (Nat.le_of_ble_eq_true rfl) (fun F => ?_)
  have hE := ok.env F
  unfold bits_RotateLeft32 at h
  show Run (B.env F) 0 _ ⟨asFr 17 [(0, u32 x_1), (1, i64 k_2)], []⟩ _
  refine run_textE hE [0, 1] (fr' := [(0, u32 x_1), (1, i64 k_2)]) (σ' := []) ⟨_, orcs_nil, ?_⟩ ?_
  · simp only [go_sem, reduceIte, Nat.reduceLT, Nat.reduceEqDiff, Nat.reduceAdd]
  replace h := lt1_some h; obtain ⟨s_3, hz_4, h⟩ := h
  refine run_textE hE [0, 5] (fr' := [(0, u32 x_1), (5, u64 s_3)]) (σ' := []) ⟨_, orcs_nil, ?_⟩ ?_
  · subst hz_4; simp only [go_sem, reduceIte, Nat.reduceLT, Nat.reduceEqDiff, Nat.reduceAdd]
  replace h := lt1_some h; obtain ⟨t_5, hz_6, h⟩ := h
  refine run_textE hE [4] (fr' := [(4, u32 t_5)]) (σ' := []) ⟨_, orcs_nil, ?_⟩ ?_
  · subst hz_6; simp only [go_sem, reduceIte, Nat.reduceLT, Nat.reduceEqDiff, Nat.reduceAdd]
  refine run_ret ?_
  obtain rfl := Option.some.inj h
  refine ret_ok (.inr rfl) ?_
  simp only [go_sem, reduceIte, Nat.reduceLT, Nat.reduceEqDiff, Nat.reduceAdd]

theorem codec_appendInt_1_con {u_7 : UInt64} {r : Int} (h : codec_appendInt_1 u_7 = some r) : Con B 44 [u64 u_7] [] (fun r' σ' => r' = i64 r ∧ σ' = []) := by
  refine con_walk (N := 10) (rs := [.tmp 2]) ok Tryd.func44 rfl (by decide +kernel) rfl rfl (Nat.le_of_ble_eq_true rfl) (fun F => ?_)
  have hE := ok.env F
  unfold codec_appendInt_1 at h
  show Run (B.env F) 0 _ ⟨asFr 10 [(0, u64 u_7)], []⟩ _
  refine run_textE hE [0, 2] (fr' := [(0, u64 u_7), (2, i64 0)]) (σ' := []) ⟨_, orcs_nil, ?_⟩ ?_
  · simp only [go_sem, reduceIte, Nat.reduceLT, Nat.reduceEqDiff, Nat.reduceAdd]
  replace h := bind_some1 h; obtain ⟨j_23, hA_24, hj_25⟩ := h
  refine run_join (fun (v : Int) => (⟨asFr 10 [(2, i64 v)], []⟩ : St)) (fun v => v = j_23) ?_ ?_
  · have h := hA_24; clear hA_24
    refine run_block ?_
    replace h := bind_some1 h; obtain ⟨x_33, hx_34, hj_35⟩ := h
    refine run_loopO hx_34 (fun (v : UInt64 × Int) => (⟨asFr 10 [(0, u64 v.1), (2, i64 v.2)], []⟩ : St)) (weak_sel [] (by decide) rfl (by simp only [go_sem, reduceIte, Nat.reduceLT, Nat.reduceEqDiff, Nat.reduceAdd]) (by simp only [go_sem, reduceIte, Nat.reduceLT, Nat.reduceEqDiff, Nat.reduceAdd])) ?_
    rintro ⟨u_28, k_29⟩ o_36 h hxx_37
    replace h : codec_appendInt_1_b1 u_28 k_29 = some o_36 := h
    unfold codec_appendInt_1_b1 at h
    refine run_seq ?_
    refine run_textE hE [0, 2, 4] (fr' := [(0, u64 u_28), (2, i64 k_29), (4, .bool ((decide (u_28 > (0 : UInt64)))))]) (σ' := []) ⟨_, orcs_nil, ?_⟩ ?_
    · simp only [go_sem, reduceIte, Nat.reduceLT, Nat.reduceEqDiff, Nat.reduceAdd]
    refine run_condL (b := (decide (u_28 > (0 : UInt64)))) rfl (by decide) (fun hb => ?_) (fun hb => ?_)
    · replace h := ite_t h hb
      refine run_skip ?_
      refine thenK_n ?_
      refine run_seq ?_
      refine run_block ?_
      refine run_textE0 hE (wk_block wk_then) [0, 2] (fr' := [(0, u64 u_28), (2, i64 ((w64 (k_29 + 1))))]) (σ' := []) ⟨_, orcs_nil, ?_⟩ ?_
      · simp only [go_sem, reduceIte, Nat.reduceLT, Nat.reduceEqDiff, Nat.reduceAdd]
      refine blockK_n ?_
      refine thenK_n ?_
      replace h := lt1_some h; obtain ⟨u_38, hz_39, h⟩ := h
      refine run_textE0 hE wk_lp [0, 2] (fr' := [(0, u64 u_38), (2, i64 ((w64 (k_29 + 1))))]) (σ' := []) ⟨_, orcs_nil, ?_⟩ ?_
      · subst hz_39; simp only [go_sem, reduceIte, Nat.reduceLT, Nat.reduceEqDiff, Nat.reduceAdd]
      obtain rfl := Option.some.inj h
      exact lpK_n ((u_38, (w64 (k_29 + 1)))) rfl (weak_sel [] (by decide) rfl (by simp only [go_sem, reduceIte, Nat.reduceLT, Nat.reduceEqDiff, Nat.reduceAdd]) (by simp only [go_sem, reduceIte, Nat.reduceLT, Nat.reduceEqDiff, Nat.reduceAdd]))
    · replace h := ite_f h hb
      refine run_exit ?_
      refine thenK_x ?_
      obtain rfl := Option.some.inj h
      have ex_x_33 := hxx_37 _ rfl
      subst ex_x_33
      have h := hj_35; clear hj_35
      refine lpK_x ?_
      refine blockK_x ?_
      obtain rfl := Option.some.inj h
      exact joinK_n k_29 rfl ((weak_sel (l' := [(2, i64 k_29)]) (σ' := []) [] (by decide) rfl (by simp only [go_sem, reduceIte, Nat.reduceLT, Nat.reduceEqDiff, Nat.reduceAdd]) (by simp only [go_sem, reduceIte, Nat.reduceLT, Nat.reduceEqDiff, Nat.reduceAdd])).trans (weak_sel [] (by decide) rfl (by simp only [go_sem, reduceIte, Nat.reduceLT, Nat.reduceEqDiff, Nat.reduceAdd]) (by simp only [go_sem, reduceIte, Nat.reduceLT, Nat.reduceEqDiff, Nat.reduceAdd])))
  rintro k_22 rfl
  have h := hj_25; clear hj_25
  refine run_textE hE [2] (fr' := [(2, i64 k_22)]) (σ' := []) ⟨_, orcs_nil, ?_⟩ ?_
  · simp only [go_sem, reduceIte, Nat.reduceLT, Nat.reduceEqDiff, Nat.reduceAdd]
  refine run_ret ?_
  obtain rfl := Option.some.inj h
  refine ret_ok (.inr rfl) ?_
  simp only [go_sem, reduceIte, Nat.reduceLT, Nat.reduceEqDiff, Nat.reduceAdd]

theorem r02_rotr_con {x_40 : UInt32} {n_41 : Int} {r : UInt32} (h : r02_rotr x_40 n_41 = some r) : Con B 39 [u32 x_40, i64 n_41] [] (fun r' σ' => r' = u32 r ∧ σ' = []) := by
  refine con_walk (N := 13) (rs := [.tmp 4]) ok Tryd.func39 rfl (by decide +kernel) rfl rfl (Nat.le_of_ble_eq_true rfl) (fun F => ?_)
  have hE := ok.env F
  unfold r02_rotr at h
  show Run (B.env F) 0 _ ⟨asFr 13 [(0, u32 x_40), (1, i64 n_41)], []⟩ _
  refine run_textE hE [0, 1] (fr' := [(0, u32 x_40), (1, i64 n_41)]) (σ' := []) ⟨_, orcs_nil, ?_⟩ ?_
  · simp only [go_sem, reduceIte, Nat.reduceLT, Nat.reduceEqDiff, Nat.reduceAdd]
  replace h := chk_some h; obtain ⟨hc_42, h⟩ := h
  replace h := chk_some h; obtain ⟨hc_43, h⟩ := h
  replace h := lt1_some h; obtain ⟨t_44, hz_45, h⟩ := h
  refine run_drawE hE mixed [[], [], [0, 1], [], [], [4], [3, 4, 5], [0, 1, 2, 3, 4, 5, 6], [0, 1, 2, 3, 4, 5, 6, 7]] (by kernel_rfl) (by kernel_rfl) [4] (fr' := [(4, u32 t_44)]) (σ' := []) ⟨_, orcs_nil, ?_⟩ ?_
  · subst hz_45; simp only [go_sem, reduceIte, Nat.reduceLT, Nat.reduceEqDiff, Nat.reduceAdd, hc_42, hc_43]
  refine run_ret ?_
  obtain rfl := Option.some.inj h
  refine ret_ok (.inr rfl) ?_
  simp only [go_sem, reduceIte, Nat.reduceLT, Nat.reduceEqDiff, Nat.reduceAdd]

theorem codec_appendInt_con {b_46 : List UInt8} {n_47 : Int} {r : List UInt8} (h : codec_appendInt b_46 n_47 = some r) : Con B 40 [.bs false 0 (b_46.length) 0 (b_46.length), i64 n_47] [.buf 1 (L cU8 b_46) false] (fun r' σ' => r' = .bs false 0 (r.length) 0 (r.length) ∧ σ' = [.buf 1 (L cU8 r) false]) := by
  refine con_walk_own (N := 48) (rs := [.tmp 4]) 1 rfl ok Tryd.func40 rfl (by decide +kernel) rfl rfl (Nat.le_of_ble_eq_true rfl) (fun F => ?_)
  have hE := ok.env F
  unfold codec_appendInt at h
  show Run (B.env F) 1 _ ⟨asFr 48 [(0, .bs false 0 (b_46.length) 0 (b_46.length)), (1, i64 n_47)], [.buf 1 (L cU8 b_46) false]⟩ _
  refine run_textE hE [0, 1] (fr' := [(0, .bs false 0 (b_46.length) 0 (b_46.length)), (1, i64 n_47)]) (σ' := [.buf 1 (L cU8 b_46) false]) ⟨_, orcs_nil, ?_⟩ ?_
  · simp only [go_sem, reduceIte, Nat.reduceLT, Nat.reduceEqDiff, Nat.reduceAdd]
  refine run_textE hE [0, 1, 5] (fr' := [(0, .bs false 0 (b_46.length) 0 (b_46.length)), (1, i64 n_47), (5, .fn 44 [])]) (σ' := [.buf 1 (L cU8 b_46) false]) ⟨_, orcs_nil, ?_⟩ ?_
  · simp only [go_sem, reduceIte, Nat.reduceLT, Nat.reduceEqDiff, Nat.reduceAdd]
  replace h := bind_some1 h; obtain ⟨y_112, hy_113, h⟩ := h
  refine run_textE hE [0, 1, 5, 6] (fr' := [(0, .bs false 0 (b_46.length) 0 (b_46.length)), (1, i64 n_47), (5, .fn 44 []), (6, i64 y_112)]) (σ' := [.buf 1 (L cU8 b_46) false]) ⟨_, orcs_ok (l := [(12, 44, [u64 ((UInt64.ofInt n_47))], i64 y_112)]) ⟨codec_appendInt_1_con  hy_113, trivial⟩, ?_⟩ ?_
  · simp only [go_sem, reduceIte, Nat.reduceLT, Nat.reduceEqDiff, Nat.reduceAdd]
  replace h := lt1_some h; obtain ⟨tag_114, hz_115, h⟩ := h
  refine run_textE hE [0, 1, 5, 6, 7] (fr' := [(0, .bs false 0 (b_46.length) 0 (b_46.length)), (1, i64 n_47), (5, .fn 44 []), (6, i64 y_112), (7, u8 tag_114)]) (σ' := [.buf 1 (L cU8 b_46) false]) ⟨_, orcs_nil, ?_⟩ ?_
  · subst hz_115; simp only [go_sem, reduceIte, Nat.reduceLT, Nat.reduceEqDiff, Nat.reduceAdd]
  replace h := bind_some1 h; obtain ⟨j_122, hA_123, hj_124⟩ := h
  refine run_join (fun (v : Int × UInt8) => (⟨asFr 48 [(0, .bs false 0 (b_46.length) 0 (b_46.length)), (1, i64 n_47), (6, i64 v.1), (7, u8 v.2)], [.buf 1 (L cU8 b_46) false]⟩ : St)) (fun v => v = j_122) ?_ ?_
  · have h := hA_123; clear hA_123
    refine run_textE hE [0, 1, 5, 6, 7, 17] (fr' := [(0, .bs false 0 (b_46.length) 0 (b_46.length)), (1, i64 n_47), (5, .fn 44 []), (6, i64 y_112), (7, u8 tag_114), (17, .bool ((decide (n_47 < 0))))]) (σ' := [.buf 1 (L cU8 b_46) false]) ⟨_, orcs_nil, ?_⟩ ?_
    · simp only [go_sem, reduceIte, Nat.reduceLT, Nat.reduceEqDiff, Nat.reduceAdd]
    refine run_condL (b := (decide (n_47 < 0))) rfl (by decide) (fun hb => ?_) (fun hb => ?_)
    · replace h := ite_t h hb
      replace h := bind_some1 h; obtain ⟨y_125, hy_126, h⟩ := h
      refine run_textE hE [0, 1, 6] (fr' := [(0, .bs false 0 (b_46.length) 0 (b_46.length)), (1, i64 n_47), (6, i64 y_125)]) (σ' := [.buf 1 (L cU8 b_46) false]) ⟨_, orcs_ok (l := [(22, 44, [u64 ((~~~(UInt64.ofInt n_47)))], i64 y_125)]) ⟨codec_appendInt_1_con  hy_126, trivial⟩, ?_⟩ ?_
      · simp only [go_sem, reduceIte, Nat.reduceLT, Nat.reduceEqDiff, Nat.reduceAdd]
      replace h := lt1_some h; obtain ⟨tag_127, hz_128, h⟩ := h
      refine run_textE0 hE wk_join [0, 1, 6, 7] (fr' := [(0, .bs false 0 (b_46.length) 0 (b_46.length)), (1, i64 n_47), (6, i64 y_125), (7, u8 tag_127)]) (σ' := [.buf 1 (L cU8 b_46) false]) ⟨_, orcs_nil, ?_⟩ ?_
      · subst hz_128; simp only [go_sem, reduceIte, Nat.reduceLT, Nat.reduceEqDiff, Nat.reduceAdd]
      obtain rfl := Option.some.inj h
      exact joinK_n ((y_125, tag_127)) rfl (weak_sel [0] (by decide) rfl (by simp only [go_sem, reduceIte, Nat.reduceLT, Nat.reduceEqDiff, Nat.reduceAdd]) (by simp only [go_sem, reduceIte, Nat.reduceLT, Nat.reduceEqDiff, Nat.reduceAdd]))
    · replace h := ite_f h hb
      refine run_skip ?_
      obtain rfl := Option.some.inj h
      exact joinK_n ((y_112, tag_114)) rfl (weak_sel [0] (by decide) rfl (by simp only [go_sem, reduceIte, Nat.reduceLT, Nat.reduceEqDiff, Nat.reduceAdd]) (by simp only [go_sem, reduceIte, Nat.reduceLT, Nat.reduceEqDiff, Nat.reduceAdd]))
  rintro ⟨k_120, tag_121⟩ rfl
  have h := hj_124; clear hj_124
  replace h := chk_some h; obtain ⟨hc_129, h⟩ := h
  replace h := lt1_some h; obtain ⟨l_130, hz_131, h⟩ := h
  refine run_textE hE [0, 1, 6] (fr' := [(0, .bs false 0 (l_130.length) 0 (l_130.length)), (1, i64 n_47), (6, i64 k_120)]) (σ' := [.buf 1 (L cU8 l_130) false, .buf 1 (L cU8 (([tag_121] : List UInt8))) false]) ⟨_, orcs_nil, ?_⟩ ?_
  · subst hz_131; simp only [go_sem, reduceIte, Nat.reduceLT, Nat.reduceEqDiff, Nat.reduceAdd, Nat.reduceBEq, Nat.reduceMul, Nat.reduceSub, Nat.reduceGT, Nat.reducePow, Nat.reduceLeDiff, Int.reduceToNat, hc_129]
  replace h := bind_some1 h; obtain ⟨j_153, hA_154, hj_155⟩ := h
  refine run_join (fun (v : List UInt8) => (⟨asFr 48 [(0, .bs false 0 (v.length) 0 (v.length))], [.buf 1 (L cU8 v) false]⟩ : St)) (fun v => v = j_153) ?_ ?_
  · have h := hA_154; clear hA_154
    refine run_textE hE [0, 1, 6, 30, 31] (fr' := [(0, .bs false 0 (l_130.length) 0 (l_130.length)), (1, i64 n_47), (6, i64 k_120), (30, i64 k_120), (31, i64 0)]) (σ' := [.buf 1 (L cU8 l_130) false, .buf 1 (L cU8 (([tag_121] : List UInt8))) false]) ⟨_, orcs_nil, ?_⟩ ?_
    · simp only [go_sem, reduceIte, Nat.reduceLT, Nat.reduceEqDiff, Nat.reduceAdd]
    refine run_block ?_
    replace h := bind_some1 h; obtain ⟨x_167, hx_168, hj_169⟩ := h
    refine run_loopO hx_168 (fun (v : Int × List UInt8) => (⟨asFr 48 [(0, .bs false 0 (v.2.length) 0 (v.2.length)), (1, i64 n_47), (6, i64 k_120), (30, i64 k_120), (31, i64 v.1)], [.buf 1 (L cU8 v.2) false]⟩ : St)) (weak_sel [0] (by decide) rfl (by simp only [go_sem, reduceIte, Nat.reduceLT, Nat.reduceEqDiff, Nat.reduceAdd]) (by simp only [go_sem, reduceIte, Nat.reduceLT, Nat.reduceEqDiff, Nat.reduceAdd])) ?_
    rintro ⟨t_160, l_161⟩ o_170 h hxx_171
    replace h : codec_appendInt_b1 n_47 k_120 t_160 l_161 = some o_170 := h
    unfold codec_appendInt_b1 at h
    refine run_textE hE [0, 1, 6, 30, 31, 32] (fr' := [(0, .bs false 0 (l_161.length) 0 (l_161.length)), (1, i64 n_47), (6, i64 k_120), (30, i64 k_120), (31, i64 t_160), (32, .bool ((decide (t_160 < k_120))))]) (σ' := [.buf 1 (L cU8 l_161) false]) ⟨_, orcs_nil, ?_⟩ ?_
    · simp only [go_sem, reduceIte, Nat.reduceLT, Nat.reduceEqDiff, Nat.reduceAdd]
    refine run_seq ?_
    refine run_condL (b := (decide (t_160 < k_120))) rfl (by decide) (fun hb => ?_) (fun hb => ?_)
    · replace h := ite_t h hb
      refine run_skip ?_
      refine thenK_n ?_
      refine run_seq ?_
      refine run_block ?_
      refine run_textE hE [0, 1, 6, 8, 30, 31] (fr' := [(0, .bs false 0 (l_161.length) 0 (l_161.length)), (1, i64 n_47), (6, i64 k_120), (8, i64 t_160), (30, i64 k_120), (31, i64 t_160)]) (σ' := [.buf 1 (L cU8 l_161) false]) ⟨_, orcs_nil, ?_⟩ ?_
      · simp only [go_sem, reduceIte, Nat.reduceLT, Nat.reduceEqDiff, Nat.reduceAdd]
      replace h := chk_some h; obtain ⟨hc_172, h⟩ := h
      replace h := chk_some h; obtain ⟨hc_173, h⟩ := h
      replace h := lt1_some h; obtain ⟨l_174, hz_175, h⟩ := h
      refine run_textE0 hE (wk_block wk_then) [0, 1, 6, 30, 31] (fr' := [(0, .bs false 0 (l_174.length) 0 (l_174.length)), (1, i64 n_47), (6, i64 k_120), (30, i64 k_120), (31, i64 t_160)]) (σ' := [.buf 1 (L cU8 l_174) false, .buf 1 (L cU8 (([((shr64 ((UInt64.ofInt n_47)) (((w64 (8 * (w64 ((w64 (k_120 - 1)) - t_160))))).toNat))).toUInt8] : List UInt8))) false]) ⟨_, orcs_nil, ?_⟩ ?_
      · subst hz_175; simp only [go_sem, reduceIte, Nat.reduceLT, Nat.reduceEqDiff, Nat.reduceAdd, Nat.reduceBEq, Nat.reduceMul, Nat.reduceSub, Nat.reduceGT, Nat.reducePow, Nat.reduceLeDiff, Int.reduceToNat, hc_172, hc_173]
      refine blockK_n ?_
      refine thenK_n ?_
      refine run_textE0 hE wk_lp [0, 1, 6, 30, 31] (fr' := [(0, .bs false 0 (l_174.length) 0 (l_174.length)), (1, i64 n_47), (6, i64 k_120), (30, i64 k_120), (31, i64 ((w64 (t_160 + 1))))]) (σ' := [.buf 1 (L cU8 l_174) false, .buf 1 (L cU8 (([((shr64 ((UInt64.ofInt n_47)) (((w64 (8 * (w64 ((w64 (k_120 - 1)) - t_160))))).toNat))).toUInt8] : List UInt8))) false]) ⟨_, orcs_nil, ?_⟩ ?_
      · simp only [go_sem, reduceIte, Nat.reduceLT, Nat.reduceEqDiff, Nat.reduceAdd]
      obtain rfl := Option.some.inj h
      exact lpK_n (((w64 (t_160 + 1)), l_174)) rfl (weak_sel [0] (by decide) rfl (by simp only [go_sem, reduceIte, Nat.reduceLT, Nat.reduceEqDiff, Nat.reduceAdd]) (by simp only [go_sem, reduceIte, Nat.reduceLT, Nat.reduceEqDiff, Nat.reduceAdd]))
    · replace h := ite_f h hb
      refine run_exit ?_
      refine thenK_x ?_
      obtain rfl := Option.some.inj h
      have ex_x_167 := hxx_171 _ rfl
      subst ex_x_167
      have h := hj_169; clear hj_169
      refine lpK_x ?_
      refine blockK_x ?_
      obtain rfl := Option.some.inj h
      exact joinK_n l_161 rfl ((weak_sel (l' := [(0, .bs false 0 (l_161.length) 0 (l_161.length))]) (σ' := [.buf 1 (L cU8 l_161) false]) [0] (by decide) rfl (by simp only [go_sem, reduceIte, Nat.reduceLT, Nat.reduceEqDiff, Nat.reduceAdd]) (by simp only [go_sem, reduceIte, Nat.reduceLT, Nat.reduceEqDiff, Nat.reduceAdd])).trans (weak_sel [0] (by decide) rfl (by simp only [go_sem, reduceIte, Nat.reduceLT, Nat.reduceEqDiff, Nat.reduceAdd]) (by simp only [go_sem, reduceIte, Nat.reduceLT, Nat.reduceEqDiff, Nat.reduceAdd])))
  rintro l_152 rfl
  have h := hj_155; clear hj_155
  refine run_textE hE [4] (fr' := [(4, .bs false 0 (l_152.length) 0 (l_152.length))]) (σ' := [.buf 1 (L cU8 l_152) false]) ⟨_, orcs_nil, ?_⟩ ?_
  · simp only [go_sem, reduceIte, Nat.reduceLT, Nat.reduceEqDiff, Nat.reduceAdd]
  refine run_ret ?_
  obtain rfl := Option.some.inj h
  refine ret_own (.inr rfl) [0] (by decide) rfl ?_ ?_
  · simp only [go_sem, reduceIte, Nat.reduceLT, Nat.reduceEqDiff, Nat.reduceAdd]
  · simp only [go_sem, reduceIte, Nat.reduceLT, Nat.reduceEqDiff, Nat.reduceAdd]

end Go.Proofs.YtgdiabbgiiemcaaDoor
/-
  The functions compute just that.
-/
namespace Go.Proofs.YtgdiabbgiiemcaaDoor
open Go.Rv
set_option linter.unusedVariables false
set_option linter.unusedSimpArgs false
set_option maxRecDepth 20000

theorem codec_shape_F_con {rec_ : Api_Value → Option (Int × Bool)} (hrec : ∀ {v_176 : Api_Value} {r : Int × Bool}, rec_ v_176 = some r → Con B 31 [.agg [i64 v_176.Kind, i64 v_176.N, .sl false (L cU8 v_176.B), .sl false (L cApi_Value v_176.L)]] [] (fun r' σ' => r' = .tup [i64 r.1, .bool r.2] ∧ σ' = [])) {v_176 : Api_Value} {r : Int × Bool} (h : codec_shape_F rec_ v_176 = some r) : Con B 31 [.agg [i64 v_176.Kind, i64 v_176.N, .sl false (L cU8 v_176.B), .sl false (L cApi_Value v_176.L)]] [] (fun r' σ' => r' = .tup [i64 r.1, .bool r.2] ∧ σ' = []) := by
  refine con_walk (N := 64) (rs := [.tmp 2, .tmp 3]) ok Tryd.func31 rfl (by decide +kernel) rfl rfl (Nat.le_of_ble_eq_true rfl) (fun F => ?_)
  have hE := ok.env F
  unfold codec_shape_F at h
  show Run (B.env F) 0 _ ⟨asFr 64 [(0, .agg [i64 v_176.Kind, i64 v_176.N, .sl false (L cU8 v_176.B), .sl false (L cApi_Value v_176.L)])], []⟩ _
  refine run_textE hE [1, 2] (fr' := [(1, .ref 0 0), (2, i64 0)]) (σ' := [.box [i64 v_176.Kind, i64 v_176.N, .sl false (L cU8 v_176.B), .sl false (L cApi_Value v_176.L)] false]) ⟨_, orcs_nil, ?_⟩ ?_
  · simp only [go_sem, reduceIte, Nat.reduceLT, Nat.reduceEqDiff, Nat.reduceAdd]
  replace h := bind_some1 h; obtain ⟨j_278, hA_279, hj_280⟩ := h
  refine run_join (fun (v : Unit) => (⟨asFr 64 [], []⟩ : St)) (fun v => .inl v = j_278) ?_ ?_
  · have h := hA_279; clear hA_279
    refine run_textE hE [1, 2, 9] (fr' := [(1, .ref 0 0), (2, i64 0), (9, i64 v_176.Kind)]) (σ' := [.box [i64 v_176.Kind, i64 v_176.N, .sl false (L cU8 v_176.B), .sl false (L cApi_Value v_176.L)] false]) ⟨_, orcs_nil, ?_⟩ ?_
    · simp only [go_sem, reduceIte, Nat.reduceLT, Nat.reduceEqDiff, Nat.reduceAdd]
    refine run_block ?_
    refine run_textE hE [1, 2, 9, 10] (fr' := [(1, .ref 0 0), (2, i64 0), (9, i64 v_176.Kind), (10, .bool ((v_176.Kind == 1)))]) (σ' := [.box [i64 v_176.Kind, i64 v_176.N, .sl false (L cU8 v_176.B), .sl false (L cApi_Value v_176.L)] false]) ⟨_, orcs_nil, ?_⟩ ?_
    · simp only [go_sem, reduceIte, Nat.reduceLT, Nat.reduceEqDiff, Nat.reduceAdd]
    refine run_condL (b := (v_176.Kind == 1)) rfl (by decide) (fun hb => ?_) (fun hb => ?_)
    · replace h := ite_t h hb
      replace h := bind_some1 h; obtain ⟨ok_281, hv_282, h⟩ := h
      refine run_drawW hE mixed [[], [0], [0, 1], [0, 1, 2], [0, 1, 2, 3], [0, 1, 2, 3, 4], [0, 1, 2, 3, 4, 5], [0, 1, 2, 3, 4, 5, 6], [0, 1, 2, 3, 4, 5, 6, 7], [0, 1, 2, 3, 4, 5, 6, 7, 8], [0, 1, 2, 3, 4], [0, 1, 2, 3, 4, 5, 6, 7, 8, 9, 10]] (by kernel_rfl) (by kernel_rfl) [2, 3] (fr' := [(2, i64 0), (3, .bool ok_281)]) (σ' := []) ?_ ?_
      · rcases Bool.eq_false_or_eq_true (((v_176.B.length : Int) == 0)) with hb_283 | hb_283
        · replace hv_282 := ite_t hv_282 hb_283
          have e_hv_282 := Option.some.inj hv_282; subst e_hv_282
          exact ⟨_, [(2, i64 0), (3, .bool (((v_176.L.length : Int) == 0)))], [.box [i64 v_176.Kind, i64 v_176.N, .sl false (L cU8 v_176.B), .sl false (L cApi_Value v_176.L)] false], orcs_nil, by simp only [go_sem, reduceIte, Nat.reduceLT, Nat.reduceEqDiff, Nat.reduceAdd, hb_283], (weak_sel [] (by decide) rfl (by simp only [go_sem, reduceIte, Nat.reduceLT, Nat.reduceEqDiff, Nat.reduceAdd]) (by simp only [go_sem, reduceIte, Nat.reduceLT, Nat.reduceEqDiff, Nat.reduceAdd]))⟩
        · replace hv_282 := ite_f hv_282 hb_283
          have e_hv_282 := Option.some.inj hv_282; subst e_hv_282
          exact ⟨_, [(2, i64 0), (3, .bool false)], [.box [i64 v_176.Kind, i64 v_176.N, .sl false (L cU8 v_176.B), .sl false (L cApi_Value v_176.L)] false], orcs_nil, by simp only [go_sem, reduceIte, Nat.reduceLT, Nat.reduceEqDiff, Nat.reduceAdd, hb_283], (weak_sel [] (by decide) rfl (by simp only [go_sem, reduceIte, Nat.reduceLT, Nat.reduceEqDiff, Nat.reduceAdd]) (by simp only [go_sem, reduceIte, Nat.reduceLT, Nat.reduceEqDiff, Nat.reduceAdd]))⟩
      refine run_ret ?_
      refine blockK_r ?_
      refine joinK_r ?_
      replace h := bind_some1 h; obtain ⟨z_284, h, e_z_284⟩ := h
      obtain rfl := Option.some.inj e_z_284
      obtain rfl := Option.some.inj hj_280
      obtain rfl := Option.some.inj h
      refine ret_ok (.inr rfl) ?_
      simp only [go_sem, reduceIte, Nat.reduceLT, Nat.reduceEqDiff, Nat.reduceAdd]
    · replace h := ite_f h hb
      refine run_textE hE [1, 2, 9, 22] (fr' := [(1, .ref 0 0), (2, i64 0), (9, i64 v_176.Kind), (22, .bool ((v_176.Kind == 2)))]) (σ' := [.box [i64 v_176.Kind, i64 v_176.N, .sl false (L cU8 v_176.B), .sl false (L cApi_Value v_176.L)] false]) ⟨_, orcs_nil, ?_⟩ ?_
      · simp only [go_sem, reduceIte, Nat.reduceLT, Nat.reduceEqDiff, Nat.reduceAdd]
      refine run_condL (b := (v_176.Kind == 2)) rfl (by decide) (fun hb => ?_) (fun hb => ?_)
      · replace h := ite_t h hb
        replace h := bind_some1 h; obtain ⟨ok_285, hv_286, h⟩ := h
        refine run_drawW hE mixed [[], [0], [0, 1], [0, 1, 2], [0, 1, 2, 3], [0, 1, 2, 3, 4], [0, 1, 2, 3, 4, 5], [0, 1, 2, 3, 4, 5, 6], [0, 1, 2, 3, 4, 5, 6, 7], [0, 1, 2, 3], [0, 1, 2, 3, 4, 5, 6, 7, 8, 9]] (by kernel_rfl) (by kernel_rfl) [2, 3] (fr' := [(2, i64 0), (3, .bool ok_285)]) (σ' := []) ?_ ?_
        · rcases Bool.eq_false_or_eq_true ((v_176.N == 0)) with hb_287 | hb_287
          · replace hv_286 := ite_t hv_286 hb_287
            have e_hv_286 := Option.some.inj hv_286; subst e_hv_286
            exact ⟨_, [(2, i64 0), (3, .bool (((v_176.L.length : Int) == 0)))], [.box [i64 v_176.Kind, i64 v_176.N, .sl false (L cU8 v_176.B), .sl false (L cApi_Value v_176.L)] false], orcs_nil, by simp only [go_sem, reduceIte, Nat.reduceLT, Nat.reduceEqDiff, Nat.reduceAdd, hb_287], (weak_sel [] (by decide) rfl (by simp only [go_sem, reduceIte, Nat.reduceLT, Nat.reduceEqDiff, Nat.reduceAdd]) (by simp only [go_sem, reduceIte, Nat.reduceLT, Nat.reduceEqDiff, Nat.reduceAdd]))⟩
          · replace hv_286 := ite_f hv_286 hb_287
            have e_hv_286 := Option.some.inj hv_286; subst e_hv_286
            exact ⟨_, [(2, i64 0), (3, .bool false)], [.box [i64 v_176.Kind, i64 v_176.N, .sl false (L cU8 v_176.B), .sl false (L cApi_Value v_176.L)] false], orcs_nil, by simp only [go_sem, reduceIte, Nat.reduceLT, Nat.reduceEqDiff, Nat.reduceAdd, hb_287], (weak_sel [] (by decide) rfl (by simp only [go_sem, reduceIte, Nat.reduceLT, Nat.reduceEqDiff, Nat.reduceAdd]) (by simp only [go_sem, reduceIte, Nat.reduceLT, Nat.reduceEqDiff, Nat.reduceAdd]))⟩
        refine run_ret ?_
        refine blockK_r ?_
        refine joinK_r ?_
        replace h := bind_some1 h; obtain ⟨z_288, h, e_z_288⟩ := h
        obtain rfl := Option.some.inj e_z_288
        obtain rfl := Option.some.inj hj_280
        obtain rfl := Option.some.inj h
        refine ret_ok (.inr rfl) ?_
        simp only [go_sem, reduceIte, Nat.reduceLT, Nat.reduceEqDiff, Nat.reduceAdd]
      · replace h := ite_f h hb
        refine run_textE hE [1, 2, 33] (fr' := [(1, .ref 0 0), (2, i64 0), (33, .bool ((v_176.Kind == 3)))]) (σ' := [.box [i64 v_176.Kind, i64 v_176.N, .sl false (L cU8 v_176.B), .sl false (L cApi_Value v_176.L)] false]) ⟨_, orcs_nil, ?_⟩ ?_
        · simp only [go_sem, reduceIte, Nat.reduceLT, Nat.reduceEqDiff, Nat.reduceAdd]
        refine run_condL (b := (v_176.Kind == 3)) rfl (by decide) (fun hb => ?_) (fun hb => ?_)
        · replace h := ite_t h hb
          refine run_seq ?_
          replace h := bind_some1 h; obtain ⟨t_289, hv_290, h⟩ := h
          refine run_textW hE [1, 2, 43] (fr' := [(1, .ref 0 0), (2, i64 0), (43, .bool t_289)]) (σ' := [.box [i64 v_176.Kind, i64 v_176.N, .sl false (L cU8 v_176.B), .sl false (L cApi_Value v_176.L)] false]) ?_ ?_
          · rcases Bool.eq_false_or_eq_true ((v_176.N != 0)) with hb_291 | hb_291
            · replace hv_290 := ite_t hv_290 hb_291
              have e_hv_290 := Option.some.inj hv_290; subst e_hv_290
              exact ⟨_, [(1, .ref 0 0), (2, i64 0), (43, .bool true)], [.box [i64 v_176.Kind, i64 v_176.N, .sl false (L cU8 v_176.B), .sl false (L cApi_Value v_176.L)] false], orcs_nil, by simp only [go_sem, reduceIte, Nat.reduceLT, Nat.reduceEqDiff, Nat.reduceAdd, hb_291], (weak_sel [0] (by decide) rfl (by simp only [go_sem, reduceIte, Nat.reduceLT, Nat.reduceEqDiff, Nat.reduceAdd]) (by simp only [go_sem, reduceIte, Nat.reduceLT, Nat.reduceEqDiff, Nat.reduceAdd]))⟩
            · replace hv_290 := ite_f hv_290 hb_291
              have e_hv_290 := Option.some.inj hv_290; subst e_hv_290
              exact ⟨_, [(1, .ref 0 0), (2, i64 0), (43, .bool (((v_176.B.length : Int) != 0)))], [.box [i64 v_176.Kind, i64 v_176.N, .sl false (L cU8 v_176.B), .sl false (L cApi_Value v_176.L)] false], orcs_nil, by simp only [go_sem, reduceIte, Nat.reduceLT, Nat.reduceEqDiff, Nat.reduceAdd, hb_291], (weak_sel [0] (by decide) rfl (by simp only [go_sem, reduceIte, Nat.reduceLT, Nat.reduceEqDiff, Nat.reduceAdd]) (by simp only [go_sem, reduceIte, Nat.reduceLT, Nat.reduceEqDiff, Nat.reduceAdd]))⟩
          refine run_condL (b := t_289) rfl (by decide) (fun hb => ?_) (fun hb => ?_)
          · replace h := ite_t h hb
            refine run_textE hE [2, 3] (fr' := [(2, i64 0), (3, .bool false)]) (σ' := [.box [i64 v_176.Kind, i64 v_176.N, .sl false (L cU8 v_176.B), .sl false (L cApi_Value v_176.L)] false]) ⟨_, orcs_nil, ?_⟩ ?_
            · simp only [go_sem, reduceIte, Nat.reduceLT, Nat.reduceEqDiff, Nat.reduceAdd]
            refine run_ret ?_
            refine thenK_r ?_
            refine blockK_r ?_
            refine joinK_r ?_
            replace h := bind_some1 h; obtain ⟨z_292, h, e_z_292⟩ := h
            obtain rfl := Option.some.inj e_z_292
            obtain rfl := Option.some.inj hj_280
            obtain rfl := Option.some.inj h
            refine ret_ok (.inr rfl) ?_
            simp only [go_sem, reduceIte, Nat.reduceLT, Nat.reduceEqDiff, Nat.reduceAdd]
          · replace h := ite_f h hb
            refine run_skip ?_
            refine thenK_n ?_
            replace h := bind_some1 h; obtain ⟨j_336, hA_337, hj_338⟩ := h
            refine run_join (fun (v : Int) => (⟨asFr 64 [(2, i64 v)], []⟩ : St)) (fun v => .inl v = j_336) ?_ ?_
            · have h := hA_337; clear hA_337
              refine run_textE hE [2, 45, 46, 47] (fr' := [(2, i64 0), (45, .sl false (L cApi_Value v_176.L)), (46, i64 ((v_176.L.length : Int))), (47, i64 0)]) (σ' := [.box [i64 v_176.Kind, i64 v_176.N, .sl false (L cU8 v_176.B), .sl false (L cApi_Value v_176.L)] false]) ⟨_, orcs_nil, ?_⟩ ?_
              · simp only [go_sem, reduceIte, Nat.reduceLT, Nat.reduceEqDiff, Nat.reduceAdd]
              refine run_block ?_
              replace h := bind_some1 h; obtain ⟨x_362, hx_363, hj_364⟩ := h
              refine run_loopO hx_363 (fun (v : Int × Int) => (⟨asFr 64 [(2, i64 v.1), (45, .sl false (L cApi_Value v_176.L)), (46, i64 ((v_176.L.length : Int))), (47, i64 v.2)], []⟩ : St)) (weak_sel [] (by decide) rfl (by simp only [go_sem, reduceIte, Nat.reduceLT, Nat.reduceEqDiff, Nat.reduceAdd]) (by simp only [go_sem, reduceIte, Nat.reduceLT, Nat.reduceEqDiff, Nat.reduceAdd])) ?_
              rintro ⟨depth_345, t_346⟩ o_365 h hxx_366
              replace h : codec_shape_b1 v_176 rec_ depth_345 t_346 = some o_365 := h
              unfold codec_shape_b1 at h
              refine run_textE hE [2, 45, 46, 47, 48] (fr' := [(2, i64 depth_345), (45, .sl false (L cApi_Value v_176.L)), (46, i64 ((v_176.L.length : Int))), (47, i64 t_346), (48, .bool ((decide (t_346 < (v_176.L.length : Int)))))]) (σ' := []) ⟨_, orcs_nil, ?_⟩ ?_
              · simp only [go_sem, reduceIte, Nat.reduceLT, Nat.reduceEqDiff, Nat.reduceAdd]
              refine run_seq ?_
              refine run_condL (b := (decide (t_346 < (v_176.L.length : Int)))) rfl (by decide) (fun hb => ?_) (fun hb => ?_)
              · replace h := ite_t h hb
                refine run_skip ?_
                refine thenK_n ?_
                refine run_seq ?_
                refine run_block ?_
                replace h := chk_some h; obtain ⟨hc_367, h⟩ := h
                replace h := lt1_some h; obtain ⟨f_368, hz_372, h⟩ := h
                replace h := lt1_some h; obtain ⟨f_369, hz_373, h⟩ := h
                replace h := lt1_some h; obtain ⟨f_370, hz_374, h⟩ := h
                replace h := lt1_some h; obtain ⟨f_371, hz_375, h⟩ := h
                refine run_textE hE [2, 5, 45, 46, 47] (fr' := [(2, i64 depth_345), (5, .ref 0 0), (45, .sl false (L cApi_Value v_176.L)), (46, i64 ((v_176.L.length : Int))), (47, i64 t_346)]) (σ' := [.box [i64 f_368, i64 f_369, .sl false (L cU8 f_370), .sl false (L cApi_Value f_371)] false]) ⟨_, orcs_nil, ?_⟩ ?_
                · subst hz_375; subst hz_374; subst hz_373; subst hz_372; simp only [go_sem, reduceIte, Nat.reduceLT, Nat.reduceEqDiff, Nat.reduceAdd, Int.reduceToNat, Nat.reduceLeDiff, hc_367, hc_367.2, lt_le hc_367.2]
                replace h := bind_some1 h; obtain ⟨y_376, hy_377, h⟩ := h
                refine run_textE hE [2, 6, 7, 45, 46, 47] (fr' := [(2, i64 depth_345), (6, i64 y_376.1), (7, .bool y_376.2), (45, .sl false (L cApi_Value v_176.L)), (46, i64 ((v_176.L.length : Int))), (47, i64 t_346)]) (σ' := [.box [i64 f_368, i64 f_369, .sl false (L cU8 f_370), .sl false (L cApi_Value f_371)] false]) ⟨_, orcs_ok (l := [(53, 31, [.agg [i64 f_368, i64 f_369, .sl false (L cU8 f_370), .sl false (L cApi_Value f_371)]], .tup [i64 y_376.1, .bool y_376.2])]) ⟨hrec  hy_377, trivial⟩, ?_⟩ ?_
                · simp only [go_sem, reduceIte, Nat.reduceLT, Nat.reduceEqDiff, Nat.reduceAdd]
                refine run_seq ?_
                refine run_textE hE [2, 6, 45, 46, 47, 57] (fr' := [(2, i64 depth_345), (6, i64 y_376.1), (45, .sl false (L cApi_Value v_176.L)), (46, i64 ((v_176.L.length : Int))), (47, i64 t_346), (57, .bool ((!y_376.2)))]) (σ' := [.box [i64 f_368, i64 f_369, .sl false (L cU8 f_370), .sl false (L cApi_Value f_371)] false]) ⟨_, orcs_nil, ?_⟩ ?_
                · simp only [go_sem, reduceIte, Nat.reduceLT, Nat.reduceEqDiff, Nat.reduceAdd]
                refine run_condL (b := (!y_376.2)) rfl (by decide) (fun hb => ?_) (fun hb => ?_)
                · replace h := ite_t h hb
                  refine run_textE hE [2, 3] (fr' := [(2, i64 0), (3, .bool false)]) (σ' := [.box [i64 f_368, i64 f_369, .sl false (L cU8 f_370), .sl false (L cApi_Value f_371)] false]) ⟨_, orcs_nil, ?_⟩ ?_
                  · simp only [go_sem, reduceIte, Nat.reduceLT, Nat.reduceEqDiff, Nat.reduceAdd]
                  refine run_ret ?_
                  refine thenK_r ?_
                  refine blockK_r ?_
                  refine thenK_r ?_
                  refine lpK_r ?_
                  replace h := bind_some1 h; obtain ⟨z_380, h, e_z_380⟩ := h
                  obtain rfl := Option.some.inj e_z_380
                  have ex_z_380 := hxx_366 _ rfl
                  subst ex_z_380
                  obtain rfl := Option.some.inj hj_364
                  refine blockK_r ?_
                  refine joinK_r ?_
                  replace h := bind_some1 h; obtain ⟨z_379, h, e_z_379⟩ := h
                  obtain rfl := Option.some.inj e_z_379
                  obtain rfl := Option.some.inj hj_338
                  refine blockK_r ?_
                  refine joinK_r ?_
                  replace h := bind_some1 h; obtain ⟨z_378, h, e_z_378⟩ := h
                  obtain rfl := Option.some.inj e_z_378
                  obtain rfl := Option.some.inj hj_280
                  obtain rfl := Option.some.inj h
                  refine ret_ok (.inr rfl) ?_
                  simp only [go_sem, reduceIte, Nat.reduceLT, Nat.reduceEqDiff, Nat.reduceAdd]
                · replace h := ite_f h hb
                  refine run_skip ?_
                  refine thenK_n ?_
                  refine run_textE0 hE (wk_block wk_then) [2, 45, 46, 47] (fr' := [(2, i64 ((mx64 depth_345 y_376.1))), (45, .sl false (L cApi_Value v_176.L)), (46, i64 ((v_176.L.length : Int))), (47, i64 t_346)]) (σ' := [.box [i64 f_368, i64 f_369, .sl false (L cU8 f_370), .sl false (L cApi_Value f_371)] false]) ⟨_, orcs_nil, ?_⟩ ?_
                  · simp only [go_sem, reduceIte, Nat.reduceLT, Nat.reduceEqDiff, Nat.reduceAdd]
                  refine blockK_n ?_
                  refine thenK_n ?_
                  refine run_textE0 hE wk_lp [2, 45, 46, 47] (fr' := [(2, i64 ((mx64 depth_345 y_376.1))), (45, .sl false (L cApi_Value v_176.L)), (46, i64 ((v_176.L.length : Int))), (47, i64 ((w64 (t_346 + 1))))]) (σ' := [.box [i64 f_368, i64 f_369, .sl false (L cU8 f_370), .sl false (L cApi_Value f_371)] false]) ⟨_, orcs_nil, ?_⟩ ?_
                  · simp only [go_sem, reduceIte, Nat.reduceLT, Nat.reduceEqDiff, Nat.reduceAdd]
                  obtain rfl := Option.some.inj h
                  exact lpK_n (((mx64 depth_345 y_376.1), (w64 (t_346 + 1)))) rfl (weak_sel [] (by decide) rfl (by simp only [go_sem, reduceIte, Nat.reduceLT, Nat.reduceEqDiff, Nat.reduceAdd]) (by simp only [go_sem, reduceIte, Nat.reduceLT, Nat.reduceEqDiff, Nat.reduceAdd]))
              · replace h := ite_f h hb
                refine run_exit ?_
                refine thenK_x ?_
                obtain rfl := Option.some.inj h
                have ex_x_362 := hxx_366 _ rfl
                subst ex_x_362
                have h := hj_364; clear hj_364
                refine lpK_x ?_
                refine blockK_x ?_
                obtain rfl := Option.some.inj h
                exact joinK_n depth_345 rfl ((weak_sel (l' := [(2, i64 depth_345)]) (σ' := []) [] (by decide) rfl (by simp only [go_sem, reduceIte, Nat.reduceLT, Nat.reduceEqDiff, Nat.reduceAdd]) (by simp only [go_sem, reduceIte, Nat.reduceLT, Nat.reduceEqDiff, Nat.reduceAdd])).trans (weak_sel [] (by decide) rfl (by simp only [go_sem, reduceIte, Nat.reduceLT, Nat.reduceEqDiff, Nat.reduceAdd]) (by simp only [go_sem, reduceIte, Nat.reduceLT, Nat.reduceEqDiff, Nat.reduceAdd])))
            rintro depth_335 rfl
            have h := hj_338; clear hj_338
            refine run_textE hE [2, 3] (fr' := [(2, i64 ((w64 (depth_335 + 1)))), (3, .bool true)]) (σ' := []) ⟨_, orcs_nil, ?_⟩ ?_
            · simp only [go_sem, reduceIte, Nat.reduceLT, Nat.reduceEqDiff, Nat.reduceAdd]
            refine run_ret ?_
            refine blockK_r ?_
            refine joinK_r ?_
            replace h := bind_some1 h; obtain ⟨z_381, h, e_z_381⟩ := h
            obtain rfl := Option.some.inj e_z_381
            obtain rfl := Option.some.inj hj_280
            obtain rfl := Option.some.inj h
            refine ret_ok (.inr rfl) ?_
            simp only [go_sem, reduceIte, Nat.reduceLT, Nat.reduceEqDiff, Nat.reduceAdd]
        · replace h := ite_f h hb
          refine run_skip ?_
          refine blockK_n ?_
          obtain rfl := Option.some.inj h
          exact joinK_n (()) rfl (weak_sel [] (by decide) rfl (by simp only [go_sem, reduceIte, Nat.reduceLT, Nat.reduceEqDiff, Nat.reduceAdd]) (by simp only [go_sem, reduceIte, Nat.reduceLT, Nat.reduceEqDiff, Nat.reduceAdd]))
  rintro ⟨⟩ rfl
  have h := hj_280; clear hj_280
  refine run_textE hE [2, 3] (fr' := [(2, i64 0), (3, .bool false)]) (σ' := []) ⟨_, orcs_nil, ?_⟩ ?_
  · simp only [go_sem, reduceIte, Nat.reduceLT, Nat.reduceEqDiff, Nat.reduceAdd]
  refine run_ret ?_
  obtain rfl := Option.some.inj h
  refine ret_ok (.inr rfl) ?_
  simp only [go_sem, reduceIte, Nat.reduceLT, Nat.reduceEqDiff, Nat.reduceAdd]
theorem codec_shape_n_con (n : Nat) : ∀ {v_176 : Api_Value} {r : Int × Bool}, codec_shape_n n v_176 = some r → Con B 31 [.agg [i64 v_176.Kind, i64 v_176.N, .sl false (L cU8 v_176.B), .sl false (L cApi_Value v_176.L)]] [] (fun r' σ' => r' = .tup [i64 r.1, .bool r.2] ∧ σ' = []) := by
  induction n with
  | zero => intro v_176 r h; cases h
  | succ n ih => intro v_176 r h; exact codec_shape_F_con ih h
theorem codec_shape_con {v_176 : Api_Value} {r : Int × Bool} (h : codec_shape v_176 = some r) : Con B 31 [.agg [i64 v_176.Kind, i64 v_176.N, .sl false (L cU8 v_176.B), .sl false (L cApi_Value v_176.L)]] [] (fun r' σ' => r' = .tup [i64 r.1, .bool r.2] ∧ σ' = []) := codec_shape_n_con _ h

end Go.Proofs.YtgdiabbgiiemcaaDoor
/-
  The functions compute just that.
-/
namespace Go.Proofs.YtgdiabbgiiemcaaDoor
open Go.Rv
set_option linter.unusedVariables false
set_option linter.unusedSimpArgs false
set_option maxRecDepth 20000

theorem codec_appendValue_F_con {rec_ : (List UInt8) → Api_Value → Option (List UInt8)} (hrec : ∀ {b_382 : List UInt8} {v_383 : Api_Value} {r : List UInt8}, rec_ b_382 v_383 = some r → Con B 32 [.bs false 0 (b_382.length) 0 (b_382.length), .agg [i64 v_383.Kind, i64 v_383.N, .sl false (L cU8 v_383.B), .sl false (L cApi_Value v_383.L)]] [.buf 1 (L cU8 b_382) false] (fun r' σ' => r' = .bs false 0 (r.length) 0 (r.length) ∧ σ' = [.buf 1 (L cU8 r) false])) {b_382 : List UInt8} {v_383 : Api_Value} {r : List UInt8} (h : codec_appendValue_F rec_ b_382 v_383 = some r) : Con B 32 [.bs false 0 (b_382.length) 0 (b_382.length), .agg [i64 v_383.Kind, i64 v_383.N, .sl false (L cU8 v_383.B), .sl false (L cApi_Value v_383.L)]] [.buf 1 (L cU8 b_382) false] (fun r' σ' => r' = .bs false 0 (r.length) 0 (r.length) ∧ σ' = [.buf 1 (L cU8 r) false]) := by
  refine con_walk_own (N := 59) (rs := [.tmp 4]) 1 rfl ok Tryd.func32 rfl (by decide +kernel) rfl rfl (Nat.le_of_ble_eq_true rfl) (fun F => ?_)
  have hE := ok.env F
  unfold codec_appendValue_F at h
  show Run (B.env F) 1 _ ⟨asFr 59 [(0, .bs false 0 (b_382.length) 0 (b_382.length)), (1, .agg [i64 v_383.Kind, i64 v_383.N, .sl false (L cU8 v_383.B), .sl false (L cApi_Value v_383.L)])], [.buf 1 (L cU8 b_382) false]⟩ _
  refine run_textE hE [0, 3] (fr' := [(0, .bs false 0 (b_382.length) 0 (b_382.length)), (3, .ref 1 0)]) (σ' := [.buf 1 (L cU8 b_382) false, .box [i64 v_383.Kind, i64 v_383.N, .sl false (L cU8 v_383.B), .sl false (L cApi_Value v_383.L)] false]) ⟨_, orcs_nil, ?_⟩ ?_
  · simp only [go_sem, reduceIte, Nat.reduceLT, Nat.reduceEqDiff, Nat.reduceAdd]
  replace h := bind_some1 h; obtain ⟨j_824, hA_825, hj_826⟩ := h
  refine run_join (fun (v : Unit) => (⟨asFr 59 [(0, .bs false 0 (b_382.length) 0 (b_382.length)), (3, .ref 1 0)], [.buf 1 (L cU8 b_382) false, .box [i64 v_383.Kind, i64 v_383.N, .sl false (L cU8 v_383.B), .sl false (L cApi_Value v_383.L)] false]⟩ : St)) (fun v => .inl v = j_824) ?_ ?_
  · have h := hA_825; clear hA_825
    refine run_textE hE [0, 3, 10] (fr' := [(0, .bs false 0 (b_382.length) 0 (b_382.length)), (3, .ref 1 0), (10, i64 v_383.Kind)]) (σ' := [.buf 1 (L cU8 b_382) false, .box [i64 v_383.Kind, i64 v_383.N, .sl false (L cU8 v_383.B), .sl false (L cApi_Value v_383.L)] false]) ⟨_, orcs_nil, ?_⟩ ?_
    · simp only [go_sem, reduceIte, Nat.reduceLT, Nat.reduceEqDiff, Nat.reduceAdd]
    refine run_block ?_
    refine run_textE hE [0, 3, 10, 11] (fr' := [(0, .bs false 0 (b_382.length) 0 (b_382.length)), (3, .ref 1 0), (10, i64 v_383.Kind), (11, .bool ((v_383.Kind == 1)))]) (σ' := [.buf 1 (L cU8 b_382) false, .box [i64 v_383.Kind, i64 v_383.N, .sl false (L cU8 v_383.B), .sl false (L cApi_Value v_383.L)] false]) ⟨_, orcs_nil, ?_⟩ ?_
    · simp only [go_sem, reduceIte, Nat.reduceLT, Nat.reduceEqDiff, Nat.reduceAdd]
    refine run_condL (b := (v_383.Kind == 1)) rfl (by decide) (fun hb => ?_) (fun hb => ?_)
    · replace h := ite_t h hb
      replace h := bind_some1 h; obtain ⟨y_827, hy_828, h⟩ := h
      refine run_textE hE [4] (fr' := [(4, .bs false 0 (y_827.length) 0 (y_827.length))]) (σ' := [.buf 1 (L cU8 y_827) false, .box [i64 v_383.Kind, i64 v_383.N, .sl false (L cU8 v_383.B), .sl false (L cApi_Value v_383.L)] false]) ⟨_, orcs_ok2 (l := []) (m := [(16, 40, [.bs false 0 (b_382.length) 0 (b_382.length), i64 v_383.N], [.buf 1 (L cU8 b_382) false, .box [i64 v_383.Kind, i64 v_383.N, .sl false (L cU8 v_383.B), .sl false (L cApi_Value v_383.L)] false], .bs false 0 (y_827.length) 0 (y_827.length), [.buf 1 (L cU8 y_827) false, .box [i64 v_383.Kind, i64 v_383.N, .sl false (L cU8 v_383.B), .sl false (L cApi_Value v_383.L)] false])]) trivial ⟨(wcon_call (codec_appendInt_con hy_828) [0] (by decide) (by simp only [go_sem, reduceIte, Nat.reduceLT, Nat.reduceEqDiff, Nat.reduceAdd]) (by simp only [go_sem, reduceIte, Nat.reduceLT, Nat.reduceEqDiff, Nat.reduceAdd]) (by simp only [go_sem, reduceIte, Nat.reduceLT, Nat.reduceEqDiff, Nat.reduceAdd]) (by simp only [go_sem, reduceIte, Nat.reduceLT, Nat.reduceEqDiff, Nat.reduceAdd]) (by simp only [go_sem, reduceIte, Nat.reduceLT, Nat.reduceEqDiff, Nat.reduceAdd])), trivial⟩, ?_⟩ ?_
      · simp only [go_sem, reduceIte, Nat.reduceLT, Nat.reduceEqDiff, Nat.reduceAdd]
      refine run_ret ?_
      refine blockK_r ?_
      refine joinK_r ?_
      replace h := bind_some1 h; obtain ⟨z_829, h, e_z_829⟩ := h
      obtain rfl := Option.some.inj e_z_829
      obtain rfl := Option.some.inj hj_826
      obtain rfl := Option.some.inj h
      refine ret_own (.inr rfl) [0] (by decide) rfl ?_ ?_
      · simp only [go_sem, reduceIte, Nat.reduceLT, Nat.reduceEqDiff, Nat.reduceAdd]
      · simp only [go_sem, reduceIte, Nat.reduceLT, Nat.reduceEqDiff, Nat.reduceAdd]
    · replace h := ite_f h hb
      refine run_textE hE [0, 3, 17] (fr' := [(0, .bs false 0 (b_382.length) 0 (b_382.length)), (3, .ref 1 0), (17, .bool ((v_383.Kind == 2)))]) (σ' := [.buf 1 (L cU8 b_382) false, .box [i64 v_383.Kind, i64 v_383.N, .sl false (L cU8 v_383.B), .sl false (L cApi_Value v_383.L)] false]) ⟨_, orcs_nil, ?_⟩ ?_
      · simp only [go_sem, reduceIte, Nat.reduceLT, Nat.reduceEqDiff, Nat.reduceAdd]
      refine run_condL (b := (v_383.Kind == 2)) rfl (by decide) (fun hb => ?_) (fun hb => ?_)
      · replace h := ite_t h hb
        replace h := chk_some h; obtain ⟨hc_830, h⟩ := h
        replace h := lt1_some h; obtain ⟨l_831, hz_832, h⟩ := h
        refine run_textE hE [0, 3] (fr' := [(0, .bs false 0 (l_831.length) 0 (l_831.length)), (3, .ref 1 0)]) (σ' := [.buf 1 (L cU8 l_831) false, .box [i64 v_383.Kind, i64 v_383.N, .sl false (L cU8 v_383.B), .sl false (L cApi_Value v_383.L)] false, .buf 1 (L cU8 (([(48 : UInt8)] : List UInt8))) false]) ⟨_, orcs_nil, ?_⟩ ?_
        · subst hz_832; simp only [go_sem, reduceIte, Nat.reduceLT, Nat.reduceEqDiff, Nat.reduceAdd, Nat.reduceBEq, Nat.reduceMul, Nat.reduceSub, Nat.reduceGT, Nat.reducePow, Nat.reduceLeDiff, Int.reduceToNat, hc_830]
        replace h := bind_some1 h; obtain ⟨j_896, hA_897, hj_898⟩ := h
        refine run_join (fun (v : List UInt8) => (⟨asFr 59 [(0, .bs false 0 (v.length) 0 (v.length))], [.buf 1 (L cU8 v) false]⟩ : St)) (fun v => v = j_896) ?_ ?_
        · have h := hA_897; clear hA_897
          refine run_textE hE [0, 23, 24, 25] (fr' := [(0, .bs false 0 (l_831.length) 0 (l_831.length)), (23, .sl false (L cU8 v_383.B)), (24, i64 ((v_383.B.length : Int))), (25, i64 0)]) (σ' := [.buf 1 (L cU8 l_831) false, .box [i64 v_383.Kind, i64 v_383.N, .sl false (L cU8 v_383.B), .sl false (L cApi_Value v_383.L)] false, .buf 1 (L cU8 (([(48 : UInt8)] : List UInt8))) false]) ⟨_, orcs_nil, ?_⟩ ?_
          · simp only [go_sem, reduceIte, Nat.reduceLT, Nat.reduceEqDiff, Nat.reduceAdd]
          refine run_block ?_
          replace h := bind_some1 h; obtain ⟨x_938, hx_939, hj_940⟩ := h
          refine run_loopO hx_939 (fun (v : Int × List UInt8) => (⟨asFr 59 [(0, .bs false 0 (v.2.length) 0 (v.2.length)), (23, .sl false (L cU8 v_383.B)), (24, i64 ((v_383.B.length : Int))), (25, i64 v.1)], [.buf 1 (L cU8 v.2) false]⟩ : St)) (weak_sel [0] (by decide) rfl (by simp only [go_sem, reduceIte, Nat.reduceLT, Nat.reduceEqDiff, Nat.reduceAdd]) (by simp only [go_sem, reduceIte, Nat.reduceLT, Nat.reduceEqDiff, Nat.reduceAdd])) ?_
          rintro ⟨t_917, l_918⟩ o_941 h hxx_942
          replace h : codec_appendValue_b1 v_383 t_917 l_918 = some o_941 := h
          unfold codec_appendValue_b1 at h
          refine run_textE hE [0, 23, 24, 25, 26] (fr' := [(0, .bs false 0 (l_918.length) 0 (l_918.length)), (23, .sl false (L cU8 v_383.B)), (24, i64 ((v_383.B.length : Int))), (25, i64 t_917), (26, .bool ((decide (t_917 < (v_383.B.length : Int)))))]) (σ' := [.buf 1 (L cU8 l_918) false]) ⟨_, orcs_nil, ?_⟩ ?_
          · simp only [go_sem, reduceIte, Nat.reduceLT, Nat.reduceEqDiff, Nat.reduceAdd]
          refine run_seq ?_
          refine run_condL (b := (decide (t_917 < (v_383.B.length : Int)))) rfl (by decide) (fun hb => ?_) (fun hb => ?_)
          · replace h := ite_t h hb
            refine run_skip ?_
            refine thenK_n ?_
            replace h := bind_some1 h; obtain ⟨j_951, hA_952, hj_953⟩ := h
            refine run_join (fun (v : List UInt8) => (⟨asFr 59 [(0, .bs false 0 (v.length) 0 (v.length)), (23, .sl false (L cU8 v_383.B)), (24, i64 ((v_383.B.length : Int))), (25, i64 t_917)], [.buf 1 (L cU8 v) false]⟩ : St)) (fun v => v = j_951) ?_ ?_
            · have h := hA_952; clear hA_952
              refine run_block ?_
              replace h := chk_some h; obtain ⟨hc_954, h⟩ := h
              refine run_textE hE [0, 6, 23, 24, 25] (fr' := [(0, .bs false 0 (l_918.length) 0 (l_918.length)), (6, u8 (nth v_383.B t_917.toNat)), (23, .sl false (L cU8 v_383.B)), (24, i64 ((v_383.B.length : Int))), (25, i64 t_917)]) (σ' := [.buf 1 (L cU8 l_918) false]) ⟨_, orcs_nil, ?_⟩ ?_
              · simp only [go_sem, reduceIte, Nat.reduceLT, Nat.reduceEqDiff, Nat.reduceAdd, Int.reduceToNat, hc_954, hc_954.2, lt_le hc_954.2]
              replace h := chk_some h; obtain ⟨hc_955, h⟩ := h
              replace h := lt1_some h; obtain ⟨l_956, hz_957, h⟩ := h
              refine run_textE hE [0, 6, 23, 24, 25] (fr' := [(0, .bs false 0 (l_956.length) 0 (l_956.length)), (6, u8 (nth v_383.B t_917.toNat)), (23, .sl false (L cU8 v_383.B)), (24, i64 ((v_383.B.length : Int))), (25, i64 t_917)]) (σ' := [.buf 1 (L cU8 l_956) false, .buf 1 (L cU8 (([nth v_383.B t_917.toNat] : List UInt8))) false]) ⟨_, orcs_nil, ?_⟩ ?_
              · subst hz_957; simp only [go_sem, reduceIte, Nat.reduceLT, Nat.reduceEqDiff, Nat.reduceAdd, Nat.reduceBEq, Nat.reduceMul, Nat.reduceSub, Nat.reduceGT, Nat.reducePow, Nat.reduceLeDiff, Int.reduceToNat, hc_955]
              refine run_textE hE [0, 23, 24, 25, 34] (fr' := [(0, .bs false 0 (l_956.length) 0 (l_956.length)), (23, .sl false (L cU8 v_383.B)), (24, i64 ((v_383.B.length : Int))), (25, i64 t_917), (34, .bool ((nth v_383.B t_917.toNat == (0 : UInt8))))]) (σ' := [.buf 1 (L cU8 l_956) false, .buf 1 (L cU8 (([nth v_383.B t_917.toNat] : List UInt8))) false]) ⟨_, orcs_nil, ?_⟩ ?_
              · simp only [go_sem, reduceIte, Nat.reduceLT, Nat.reduceEqDiff, Nat.reduceAdd]
              refine run_condL (b := (nth v_383.B t_917.toNat == (0 : UInt8))) rfl (by decide) (fun hb => ?_) (fun hb => ?_)
              · replace h := ite_t h hb
                replace h := chk_some h; obtain ⟨hc_958, h⟩ := h
                replace h := lt1_some h; obtain ⟨l_959, hz_960, h⟩ := h
                refine run_textE0 hE (wk_block wk_join) [0, 23, 24, 25] (fr' := [(0, .bs false 0 (l_959.length) 0 (l_959.length)), (23, .sl false (L cU8 v_383.B)), (24, i64 ((v_383.B.length : Int))), (25, i64 t_917)]) (σ' := [.buf 1 (L cU8 l_959) false, .buf 1 (L cU8 (([nth v_383.B t_917.toNat] : List UInt8))) false, .buf 1 (L cU8 (([(255 : UInt8)] : List UInt8))) false]) ⟨_, orcs_nil, ?_⟩ ?_
                · subst hz_960; simp only [go_sem, reduceIte, Nat.reduceLT, Nat.reduceEqDiff, Nat.reduceAdd, Nat.reduceBEq, Nat.reduceMul, Nat.reduceSub, Nat.reduceGT, Nat.reducePow, Nat.reduceLeDiff, Int.reduceToNat, hc_958]
                refine blockK_n ?_
                obtain rfl := Option.some.inj h
                exact joinK_n l_959 rfl (weak_sel [0] (by decide) rfl (by simp only [go_sem, reduceIte, Nat.reduceLT, Nat.reduceEqDiff, Nat.reduceAdd]) (by simp only [go_sem, reduceIte, Nat.reduceLT, Nat.reduceEqDiff, Nat.reduceAdd]))
              · replace h := ite_f h hb
                refine run_skip ?_
                refine blockK_n ?_
                obtain rfl := Option.some.inj h
                exact joinK_n l_956 rfl (weak_sel [0] (by decide) rfl (by simp only [go_sem, reduceIte, Nat.reduceLT, Nat.reduceEqDiff, Nat.reduceAdd]) (by simp only [go_sem, reduceIte, Nat.reduceLT, Nat.reduceEqDiff, Nat.reduceAdd]))
            rintro l_950 rfl
            have h := hj_953; clear hj_953
            refine run_textE0 hE wk_lp [0, 23, 24, 25] (fr' := [(0, .bs false 0 (l_950.length) 0 (l_950.length)), (23, .sl false (L cU8 v_383.B)), (24, i64 ((v_383.B.length : Int))), (25, i64 ((w64 (t_917 + 1))))]) (σ' := [.buf 1 (L cU8 l_950) false]) ⟨_, orcs_nil, ?_⟩ ?_
            · simp only [go_sem, reduceIte, Nat.reduceLT, Nat.reduceEqDiff, Nat.reduceAdd]
            obtain rfl := Option.some.inj h
            exact lpK_n (((w64 (t_917 + 1)), l_950)) rfl (weak_sel [0] (by decide) rfl (by simp only [go_sem, reduceIte, Nat.reduceLT, Nat.reduceEqDiff, Nat.reduceAdd]) (by simp only [go_sem, reduceIte, Nat.reduceLT, Nat.reduceEqDiff, Nat.reduceAdd]))
          · replace h := ite_f h hb
            refine run_exit ?_
            refine thenK_x ?_
            obtain rfl := Option.some.inj h
            have ex_x_938 := hxx_942 _ rfl
            subst ex_x_938
            have h := hj_940; clear hj_940
            refine lpK_x ?_
            refine blockK_x ?_
            obtain rfl := Option.some.inj h
            exact joinK_n l_918 rfl ((weak_sel (l' := [(0, .bs false 0 (l_918.length) 0 (l_918.length))]) (σ' := [.buf 1 (L cU8 l_918) false]) [0] (by decide) rfl (by simp only [go_sem, reduceIte, Nat.reduceLT, Nat.reduceEqDiff, Nat.reduceAdd]) (by simp only [go_sem, reduceIte, Nat.reduceLT, Nat.reduceEqDiff, Nat.reduceAdd])).trans (weak_sel [0] (by decide) rfl (by simp only [go_sem, reduceIte, Nat.reduceLT, Nat.reduceEqDiff, Nat.reduceAdd]) (by simp only [go_sem, reduceIte, Nat.reduceLT, Nat.reduceEqDiff, Nat.reduceAdd])))
        rintro l_895 rfl
        have h := hj_898; clear hj_898
        replace h := chk_some h; obtain ⟨hc_961, h⟩ := h
        replace h := lt1_some h; obtain ⟨l_962, hz_963, h⟩ := h
        refine run_textE hE [4] (fr' := [(4, .bs false 0 (l_962.length) 0 (l_962.length))]) (σ' := [.buf 1 (L cU8 l_962) false, .buf 1 (L cU8 (([(0 : UInt8), (0 : UInt8)] : List UInt8))) false]) ⟨_, orcs_nil, ?_⟩ ?_
        · subst hz_963; simp only [go_sem, reduceIte, Nat.reduceLT, Nat.reduceEqDiff, Nat.reduceAdd, Nat.reduceBEq, Nat.reduceMul, Nat.reduceSub, Nat.reduceGT, Nat.reducePow, Nat.reduceLeDiff, Int.reduceToNat, hc_961]
        refine run_ret ?_
        refine blockK_r ?_
        refine joinK_r ?_
        replace h := bind_some1 h; obtain ⟨z_964, h, e_z_964⟩ := h
        obtain rfl := Option.some.inj e_z_964
        obtain rfl := Option.some.inj hj_826
        obtain rfl := Option.some.inj h
        refine ret_own (.inr rfl) [0] (by decide) rfl ?_ ?_
        · simp only [go_sem, reduceIte, Nat.reduceLT, Nat.reduceEqDiff, Nat.reduceAdd]
        · simp only [go_sem, reduceIte, Nat.reduceLT, Nat.reduceEqDiff, Nat.reduceAdd]
      · replace h := ite_f h hb
        refine run_skip ?_
        refine blockK_n ?_
        obtain rfl := Option.some.inj h
        exact joinK_n (()) rfl (weak_sel [0, 1] (by decide) rfl (by simp only [go_sem, reduceIte, Nat.reduceLT, Nat.reduceEqDiff, Nat.reduceAdd]) (by simp only [go_sem, reduceIte, Nat.reduceLT, Nat.reduceEqDiff, Nat.reduceAdd]))
  rintro ⟨⟩ rfl
  have h := hj_826; clear hj_826
  replace h := chk_some h; obtain ⟨hc_965, h⟩ := h
  replace h := lt1_some h; obtain ⟨l_966, hz_967, h⟩ := h
  refine run_textE hE [0, 3] (fr' := [(0, .bs false 0 (l_966.length) 0 (l_966.length)), (3, .ref 1 0)]) (σ' := [.buf 1 (L cU8 l_966) false, .box [i64 v_383.Kind, i64 v_383.N, .sl false (L cU8 v_383.B), .sl false (L cApi_Value v_383.L)] false, .buf 1 (L cU8 (([(64 : UInt8)] : List UInt8))) false]) ⟨_, orcs_nil, ?_⟩ ?_
  · subst hz_967; simp only [go_sem, reduceIte, Nat.reduceLT, Nat.reduceEqDiff, Nat.reduceAdd, Nat.reduceBEq, Nat.reduceMul, Nat.reduceSub, Nat.reduceGT, Nat.reducePow, Nat.reduceLeDiff, Int.reduceToNat, hc_965]
  replace h := bind_some1 h; obtain ⟨j_1002, hA_1003, hj_1004⟩ := h
  refine run_join (fun (v : List UInt8) => (⟨asFr 59 [(0, .bs false 0 (v.length) 0 (v.length))], [.buf 1 (L cU8 v) false]⟩ : St)) (fun v => v = j_1002) ?_ ?_
  · have h := hA_1003; clear hA_1003
    refine run_textE hE [0, 46, 47, 48] (fr' := [(0, .bs false 0 (l_966.length) 0 (l_966.length)), (46, .sl false (L cApi_Value v_383.L)), (47, i64 ((v_383.L.length : Int))), (48, i64 0)]) (σ' := [.buf 1 (L cU8 l_966) false, .box [i64 v_383.Kind, i64 v_383.N, .sl false (L cU8 v_383.B), .sl false (L cApi_Value v_383.L)] false, .buf 1 (L cU8 (([(64 : UInt8)] : List UInt8))) false]) ⟨_, orcs_nil, ?_⟩ ?_
    · simp only [go_sem, reduceIte, Nat.reduceLT, Nat.reduceEqDiff, Nat.reduceAdd]
    refine run_block ?_
    replace h := bind_some1 h; obtain ⟨x_1022, hx_1023, hj_1024⟩ := h
    refine run_loopO hx_1023 (fun (v : Int × List UInt8) => (⟨asFr 59 [(0, .bs false 0 (v.2.length) 0 (v.2.length)), (46, .sl false (L cApi_Value v_383.L)), (47, i64 ((v_383.L.length : Int))), (48, i64 v.1)], [.buf 1 (L cU8 v.2) false]⟩ : St)) (weak_sel [0] (by decide) rfl (by simp only [go_sem, reduceIte, Nat.reduceLT, Nat.reduceEqDiff, Nat.reduceAdd]) (by simp only [go_sem, reduceIte, Nat.reduceLT, Nat.reduceEqDiff, Nat.reduceAdd])) ?_
    rintro ⟨t_1008, l_1009⟩ o_1025 h hxx_1026
    replace h : codec_appendValue_b2 v_383 rec_ t_1008 l_1009 = some o_1025 := h
    unfold codec_appendValue_b2 at h
    refine run_textE hE [0, 46, 47, 48, 49] (fr' := [(0, .bs false 0 (l_1009.length) 0 (l_1009.length)), (46, .sl false (L cApi_Value v_383.L)), (47, i64 ((v_383.L.length : Int))), (48, i64 t_1008), (49, .bool ((decide (t_1008 < (v_383.L.length : Int)))))]) (σ' := [.buf 1 (L cU8 l_1009) false]) ⟨_, orcs_nil, ?_⟩ ?_
    · simp only [go_sem, reduceIte, Nat.reduceLT, Nat.reduceEqDiff, Nat.reduceAdd]
    refine run_seq ?_
    refine run_condL (b := (decide (t_1008 < (v_383.L.length : Int)))) rfl (by decide) (fun hb => ?_) (fun hb => ?_)
    · replace h := ite_t h hb
      refine run_skip ?_
      refine thenK_n ?_
      refine run_seq ?_
      refine run_block ?_
      replace h := chk_some h; obtain ⟨hc_1027, h⟩ := h
      replace h := lt1_some h; obtain ⟨f_1028, hz_1032, h⟩ := h
      replace h := lt1_some h; obtain ⟨f_1029, hz_1033, h⟩ := h
      replace h := lt1_some h; obtain ⟨f_1030, hz_1034, h⟩ := h
      replace h := lt1_some h; obtain ⟨f_1031, hz_1035, h⟩ := h
      refine run_textE hE [0, 8, 46, 47, 48] (fr' := [(0, .bs false 0 (l_1009.length) 0 (l_1009.length)), (8, .ref 1 0), (46, .sl false (L cApi_Value v_383.L)), (47, i64 ((v_383.L.length : Int))), (48, i64 t_1008)]) (σ' := [.buf 1 (L cU8 l_1009) false, .box [i64 f_1028, i64 f_1029, .sl false (L cU8 f_1030), .sl false (L cApi_Value f_1031)] false]) ⟨_, orcs_nil, ?_⟩ ?_
      · subst hz_1035; subst hz_1034; subst hz_1033; subst hz_1032; simp only [go_sem, reduceIte, Nat.reduceLT, Nat.reduceEqDiff, Nat.reduceAdd, Int.reduceToNat, Nat.reduceLeDiff, hc_1027, hc_1027.2, lt_le hc_1027.2]
      replace h := bind_some1 h; obtain ⟨y_1036, hy_1037, h⟩ := h
      refine run_textE0 hE (wk_block wk_then) [0, 46, 47, 48] (fr' := [(0, .bs false 0 (y_1036.length) 0 (y_1036.length)), (46, .sl false (L cApi_Value v_383.L)), (47, i64 ((v_383.L.length : Int))), (48, i64 t_1008)]) (σ' := [.buf 1 (L cU8 y_1036) false, .box [i64 f_1028, i64 f_1029, .sl false (L cU8 f_1030), .sl false (L cApi_Value f_1031)] false]) ⟨_, orcs_ok2 (l := []) (m := [(54, 32, [.bs false 0 (l_1009.length) 0 (l_1009.length), .agg [i64 f_1028, i64 f_1029, .sl false (L cU8 f_1030), .sl false (L cApi_Value f_1031)]], [.buf 1 (L cU8 l_1009) false, .box [i64 f_1028, i64 f_1029, .sl false (L cU8 f_1030), .sl false (L cApi_Value f_1031)] false], .bs false 0 (y_1036.length) 0 (y_1036.length), [.buf 1 (L cU8 y_1036) false, .box [i64 f_1028, i64 f_1029, .sl false (L cU8 f_1030), .sl false (L cApi_Value f_1031)] false])]) trivial ⟨(wcon_call (hrec hy_1037) [0] (by decide) (by simp only [go_sem, reduceIte, Nat.reduceLT, Nat.reduceEqDiff, Nat.reduceAdd]) (by simp only [go_sem, reduceIte, Nat.reduceLT, Nat.reduceEqDiff, Nat.reduceAdd]) (by simp only [go_sem, reduceIte, Nat.reduceLT, Nat.reduceEqDiff, Nat.reduceAdd]) (by simp only [go_sem, reduceIte, Nat.reduceLT, Nat.reduceEqDiff, Nat.reduceAdd]) (by simp only [go_sem, reduceIte, Nat.reduceLT, Nat.reduceEqDiff, Nat.reduceAdd])), trivial⟩, ?_⟩ ?_
      · simp only [go_sem, reduceIte, Nat.reduceLT, Nat.reduceEqDiff, Nat.reduceAdd]
      refine blockK_n ?_
      refine thenK_n ?_
      refine run_textE0 hE wk_lp [0, 46, 47, 48] (fr' := [(0, .bs false 0 (y_1036.length) 0 (y_1036.length)), (46, .sl false (L cApi_Value v_383.L)), (47, i64 ((v_383.L.length : Int))), (48, i64 ((w64 (t_1008 + 1))))]) (σ' := [.buf 1 (L cU8 y_1036) false, .box [i64 f_1028, i64 f_1029, .sl false (L cU8 f_1030), .sl false (L cApi_Value f_1031)] false]) ⟨_, orcs_nil, ?_⟩ ?_
      · simp only [go_sem, reduceIte, Nat.reduceLT, Nat.reduceEqDiff, Nat.reduceAdd]
      obtain rfl := Option.some.inj h
      exact lpK_n (((w64 (t_1008 + 1)), y_1036)) rfl (weak_sel [0] (by decide) rfl (by simp only [go_sem, reduceIte, Nat.reduceLT, Nat.reduceEqDiff, Nat.reduceAdd]) (by simp only [go_sem, reduceIte, Nat.reduceLT, Nat.reduceEqDiff, Nat.reduceAdd]))
    · replace h := ite_f h hb
      refine run_exit ?_
      refine thenK_x ?_
      obtain rfl := Option.some.inj h
      have ex_x_1022 := hxx_1026 _ rfl
      subst ex_x_1022
      have h := hj_1024; clear hj_1024
      refine lpK_x ?_
      refine blockK_x ?_
      obtain rfl := Option.some.inj h
      exact joinK_n l_1009 rfl ((weak_sel (l' := [(0, .bs false 0 (l_1009.length) 0 (l_1009.length))]) (σ' := [.buf 1 (L cU8 l_1009) false]) [0] (by decide) rfl (by simp only [go_sem, reduceIte, Nat.reduceLT, Nat.reduceEqDiff, Nat.reduceAdd]) (by simp only [go_sem, reduceIte, Nat.reduceLT, Nat.reduceEqDiff, Nat.reduceAdd])).trans (weak_sel [0] (by decide) rfl (by simp only [go_sem, reduceIte, Nat.reduceLT, Nat.reduceEqDiff, Nat.reduceAdd]) (by simp only [go_sem, reduceIte, Nat.reduceLT, Nat.reduceEqDiff, Nat.reduceAdd])))
  rintro l_1001 rfl
  have h := hj_1004; clear hj_1004
  replace h := chk_some h; obtain ⟨hc_1038, h⟩ := h
  replace h := lt1_some h; obtain ⟨l_1039, hz_1040, h⟩ := h
  refine run_textE hE [4] (fr' := [(4, .bs false 0 (l_1039.length) 0 (l_1039.length))]) (σ' := [.buf 1 (L cU8 l_1039) false, .buf 1 (L cU8 (([(0 : UInt8)] : List UInt8))) false]) ⟨_, orcs_nil, ?_⟩ ?_
  · subst hz_1040; simp only [go_sem, reduceIte, Nat.reduceLT, Nat.reduceEqDiff, Nat.reduceAdd, Nat.reduceBEq, Nat.reduceMul, Nat.reduceSub, Nat.reduceGT, Nat.reducePow, Nat.reduceLeDiff, Int.reduceToNat, hc_1038]
  refine run_ret ?_
  obtain rfl := Option.some.inj h
  refine ret_own (.inr rfl) [0] (by decide) rfl ?_ ?_
  · simp only [go_sem, reduceIte, Nat.reduceLT, Nat.reduceEqDiff, Nat.reduceAdd]
  · simp only [go_sem, reduceIte, Nat.reduceLT, Nat.reduceEqDiff, Nat.reduceAdd]
theorem codec_appendValue_n_con (n : Nat) : ∀ {b_382 : List UInt8} {v_383 : Api_Value} {r : List UInt8}, codec_appendValue_n n b_382 v_383 = some r → Con B 32 [.bs false 0 (b_382.length) 0 (b_382.length), .agg [i64 v_383.Kind, i64 v_383.N, .sl false (L cU8 v_383.B), .sl false (L cApi_Value v_383.L)]] [.buf 1 (L cU8 b_382) false] (fun r' σ' => r' = .bs false 0 (r.length) 0 (r.length) ∧ σ' = [.buf 1 (L cU8 r) false]) := by
  induction n with
  | zero => intro b_382 v_383 r h; cases h
  | succ n ih => intro b_382 v_383 r h; exact codec_appendValue_F_con ih h
theorem codec_appendValue_con {b_382 : List UInt8} {v_383 : Api_Value} {r : List UInt8} (h : codec_appendValue b_382 v_383 = some r) : Con B 32 [.bs false 0 (b_382.length) 0 (b_382.length), .agg [i64 v_383.Kind, i64 v_383.N, .sl false (L cU8 v_383.B), .sl false (L cApi_Value v_383.L)]] [.buf 1 (L cU8 b_382) false] (fun r' σ' => r' = .bs false 0 (r.length) 0 (r.length) ∧ σ' = [.buf 1 (L cU8 r) false]) := codec_appendValue_n_con _ h

end Go.Proofs.YtgdiabbgiiemcaaDoor
/-
  The functions compute just that.
-/
namespace Go.Proofs.YtgdiabbgiiemcaaDoor
open Go.Rv
set_option linter.unusedVariables false
set_option linter.unusedSimpArgs false
set_option maxRecDepth 20000

theorem codec_Encode_con {v_1041 : Api_Value} {r : List UInt8 × Int} (h : codec_Encode v_1041 = some r) : Con B 22 [.agg [i64 v_1041.Kind, i64 v_1041.N, .sl false (L cU8 v_1041.B), .sl false (L cApi_Value v_1041.L)]] [] (fun r' σ' => r' = .tup [.sl false (L cU8 r.1), i64 r.2] ∧ σ' = []) := by
  refine con_walk (N := 22) (rs := [.tmp 2, .tmp 3]) ok Tryd.func22 rfl (by decide +kernel) rfl rfl (Nat.le_of_ble_eq_true rfl) (fun F => ?_)
  have hE := ok.env F
  unfold codec_Encode at h
  show Run (B.env F) 0 _ ⟨asFr 22 [(0, .agg [i64 v_1041.Kind, i64 v_1041.N, .sl false (L cU8 v_1041.B), .sl false (L cApi_Value v_1041.L)])], []⟩ _
  refine run_textE hE [1] (fr' := [(1, .ref 0 0)]) (σ' := [.box [i64 v_1041.Kind, i64 v_1041.N, .sl false (L cU8 v_1041.B), .sl false (L cApi_Value v_1041.L)] false]) ⟨_, orcs_nil, ?_⟩ ?_
  · simp only [go_sem, reduceIte, Nat.reduceLT, Nat.reduceEqDiff, Nat.reduceAdd]
  replace h := bind_some1 h; obtain ⟨y_1042, hy_1043, h⟩ := h
  refine run_textE hE [1, 4, 5] (fr' := [(1, .ref 0 0), (4, i64 y_1042.1), (5, .bool y_1042.2)]) (σ' := [.box [i64 v_1041.Kind, i64 v_1041.N, .sl false (L cU8 v_1041.B), .sl false (L cApi_Value v_1041.L)] false]) ⟨_, orcs_ok (l := [(9, 31, [.agg [i64 v_1041.Kind, i64 v_1041.N, .sl false (L cU8 v_1041.B), .sl false (L cApi_Value v_1041.L)]], .tup [i64 y_1042.1, .bool y_1042.2])]) ⟨codec_shape_con  hy_1043, trivial⟩, ?_⟩ ?_
  · simp only [go_sem, reduceIte, Nat.reduceLT, Nat.reduceEqDiff, Nat.reduceAdd]
  refine run_seq ?_
  refine run_textE hE [1, 4, 13] (fr' := [(1, .ref 0 0), (4, i64 y_1042.1), (13, .bool ((!y_1042.2)))]) (σ' := [.box [i64 v_1041.Kind, i64 v_1041.N, .sl false (L cU8 v_1041.B), .sl false (L cApi_Value v_1041.L)] false]) ⟨_, orcs_nil, ?_⟩ ?_
  · simp only [go_sem, reduceIte, Nat.reduceLT, Nat.reduceEqDiff, Nat.reduceAdd]
  refine run_condL (b := (!y_1042.2)) rfl (by decide) (fun hb => ?_) (fun hb => ?_)
  · replace h := ite_t h hb
    refine run_textE hE [2, 3] (fr' := [(2, .sl true (L cU8 ([]))), (3, i64 10)]) (σ' := [.box [i64 v_1041.Kind, i64 v_1041.N, .sl false (L cU8 v_1041.B), .sl false (L cApi_Value v_1041.L)] false]) ⟨_, orcs_nil, ?_⟩ ?_
    · simp only [go_sem, reduceIte, Nat.reduceLT, Nat.reduceEqDiff, Nat.reduceAdd]
    refine run_ret ?_
    refine thenK_r ?_
    obtain rfl := Option.some.inj h
    refine ret_ok (.inr rfl) ?_
    simp only [go_sem, reduceIte, Nat.reduceLT, Nat.reduceEqDiff, Nat.reduceAdd]
  · replace h := ite_f h hb
    refine run_skip ?_
    refine thenK_n ?_
    refine run_seq ?_
    refine run_textE hE [1, 15] (fr' := [(1, .ref 0 0), (15, .bool ((decide (y_1042.1 > 16))))]) (σ' := [.box [i64 v_1041.Kind, i64 v_1041.N, .sl false (L cU8 v_1041.B), .sl false (L cApi_Value v_1041.L)] false]) ⟨_, orcs_nil, ?_⟩ ?_
    · simp only [go_sem, reduceIte, Nat.reduceLT, Nat.reduceEqDiff, Nat.reduceAdd]
    refine run_condL (b := (decide (y_1042.1 > 16))) rfl (by decide) (fun hb => ?_) (fun hb => ?_)
    · replace h := ite_t h hb
      refine run_textE hE [2, 3] (fr' := [(2, .sl true (L cU8 ([]))), (3, i64 2)]) (σ' := [.box [i64 v_1041.Kind, i64 v_1041.N, .sl false (L cU8 v_1041.B), .sl false (L cApi_Value v_1041.L)] false]) ⟨_, orcs_nil, ?_⟩ ?_
      · simp only [go_sem, reduceIte, Nat.reduceLT, Nat.reduceEqDiff, Nat.reduceAdd]
      refine run_ret ?_
      refine thenK_r ?_
      obtain rfl := Option.some.inj h
      refine ret_ok (.inr rfl) ?_
      simp only [go_sem, reduceIte, Nat.reduceLT, Nat.reduceEqDiff, Nat.reduceAdd]
    · replace h := ite_f h hb
      refine run_skip ?_
      refine thenK_n ?_
      replace h := bind_some1 h; obtain ⟨y_1044, hy_1045, h⟩ := h
      refine run_textE hE [6] (fr' := [(6, .bs false 1 (y_1044.length) 0 (y_1044.length))]) (σ' := [.box [i64 v_1041.Kind, i64 v_1041.N, .sl false (L cU8 v_1041.B), .sl false (L cApi_Value v_1041.L)] false, .buf 1 (L cU8 y_1044) false]) ⟨_, orcs_ok2 (l := []) (m := [(17, 32, [.sl true (L cU8 ([])), .agg [i64 v_1041.Kind, i64 v_1041.N, .sl false (L cU8 v_1041.B), .sl false (L cApi_Value v_1041.L)]], [.box [i64 v_1041.Kind, i64 v_1041.N, .sl false (L cU8 v_1041.B), .sl false (L cApi_Value v_1041.L)] false], .bs false 1 (y_1044.length) 0 (y_1044.length), [.box [i64 v_1041.Kind, i64 v_1041.N, .sl false (L cU8 v_1041.B), .sl false (L cApi_Value v_1041.L)] false, .buf 1 (L cU8 y_1044) false])]) trivial ⟨(wcon_nil 1 (args' := [.bs true 1 0 0 0, .agg [i64 v_1041.Kind, i64 v_1041.N, .sl false (L cU8 v_1041.B), .sl false (L cApi_Value v_1041.L)]]) (by simp only [go_sem, reduceIte, Nat.reduceLT, Nat.reduceEqDiff, Nat.reduceAdd]) (wcon_call (codec_appendValue_con hy_1045) [1] (by decide) (by simp only [go_sem, reduceIte, Nat.reduceLT, Nat.reduceEqDiff, Nat.reduceAdd]) (by simp only [go_sem, reduceIte, Nat.reduceLT, Nat.reduceEqDiff, Nat.reduceAdd]) (by simp only [go_sem, reduceIte, Nat.reduceLT, Nat.reduceEqDiff, Nat.reduceAdd]) (by simp only [go_sem, reduceIte, Nat.reduceLT, Nat.reduceEqDiff, Nat.reduceAdd]) (by simp only [go_sem, reduceIte, Nat.reduceLT, Nat.reduceEqDiff, Nat.reduceAdd]))), trivial⟩, ?_⟩ ?_
      · simp only [go_sem, reduceIte, Nat.reduceLT, Nat.reduceEqDiff, Nat.reduceAdd]
      refine run_seq ?_
      refine run_textE hE [6, 20] (fr' := [(6, .bs false 1 (y_1044.length) 0 (y_1044.length)), (20, .bool ((decide ((y_1044.length : Int) > 65536))))]) (σ' := [.box [i64 v_1041.Kind, i64 v_1041.N, .sl false (L cU8 v_1041.B), .sl false (L cApi_Value v_1041.L)] false, .buf 1 (L cU8 y_1044) false]) ⟨_, orcs_nil, ?_⟩ ?_
      · simp only [go_sem, reduceIte, Nat.reduceLT, Nat.reduceEqDiff, Nat.reduceAdd]
      refine run_condL (b := (decide ((y_1044.length : Int) > 65536))) rfl (by decide) (fun hb => ?_) (fun hb => ?_)
      · replace h := ite_t h hb
        refine run_textE hE [2, 3] (fr' := [(2, .sl true (L cU8 ([]))), (3, i64 2)]) (σ' := [.box [i64 v_1041.Kind, i64 v_1041.N, .sl false (L cU8 v_1041.B), .sl false (L cApi_Value v_1041.L)] false, .buf 1 (L cU8 y_1044) false]) ⟨_, orcs_nil, ?_⟩ ?_
        · simp only [go_sem, reduceIte, Nat.reduceLT, Nat.reduceEqDiff, Nat.reduceAdd]
        refine run_ret ?_
        refine thenK_r ?_
        obtain rfl := Option.some.inj h
        refine ret_ok (.inr rfl) ?_
        simp only [go_sem, reduceIte, Nat.reduceLT, Nat.reduceEqDiff, Nat.reduceAdd]
      · replace h := ite_f h hb
        refine run_skip ?_
        refine thenK_n ?_
        refine run_textE hE [2, 3] (fr' := [(2, .bs false 1 (y_1044.length) 0 (y_1044.length)), (3, i64 0)]) (σ' := [.box [i64 v_1041.Kind, i64 v_1041.N, .sl false (L cU8 v_1041.B), .sl false (L cApi_Value v_1041.L)] false, .buf 1 (L cU8 y_1044) false]) ⟨_, orcs_nil, ?_⟩ ?_
        · simp only [go_sem, reduceIte, Nat.reduceLT, Nat.reduceEqDiff, Nat.reduceAdd]
        refine run_ret ?_
        obtain rfl := Option.some.inj h
        refine ret_ok (.inr rfl) ?_
        simp only [go_sem, reduceIte, Nat.reduceLT, Nat.reduceEqDiff, Nat.reduceAdd]

theorem r02_constants_con  {r : Arr UInt32 64} (h : r02_constants  = some r) : Con B 38 [] [] (fun r' σ' => r' = .agg (C1 u32 r.l) ∧ σ' = []) := by
  refine con_walk (N := 2) (rs := [.cell 0 66]) ok Tryd.func38 rfl (by decide +kernel) rfl rfl (Nat.le_of_ble_eq_true rfl) (fun F => ?_)
  have hE := ok.env F
  unfold r02_constants at h
  show Run (B.env F) 0 _ ⟨asFr 2 [], []⟩ _
  refine run_textE hE [0] (fr' := [(0, .ref 0 0)]) (σ' := [.box (C1 u32 ((Arr.rep 64 (0 : UInt32))).l) false]) ⟨_, orcs_nil, ?_⟩ ?_
  · simp only [go_sem, reduceIte, Nat.reduceLT, Nat.reduceEqDiff, Nat.reduceAdd]
  replace h := lt1_some h; obtain ⟨f_1046, hz_1047, h⟩ := h
  refine run_textE hE [0] (fr' := [(0, .ref 0 0)]) (σ' := [.box (C1 u32 f_1046.l) false]) ⟨_, orcs_nil, ?_⟩ ?_
  · subst hz_1047; simp only [go_sem, reduceIte, Nat.reduceLT, Nat.reduceEqDiff, Nat.reduceAdd, Nat.reduceGT, C1_rep, C1_nil, C1_cons]
  refine run_ret ?_
  obtain rfl := Option.some.inj h
  refine ret_ok (.inr rfl) ?_
  simp only [go_sem, reduceIte, Nat.reduceLT, Nat.reduceEqDiff, Nat.reduceAdd]

theorem r02_schedule_con {b_1048 : List UInt8} {r : Arr UInt32 64} (h : r02_schedule b_1048 = some r) : Con B 37 [.sl false (L cU8 b_1048)] [] (fun r' σ' => r' = .agg (C1 u32 r.l) ∧ σ' = []) := by
  refine con_walk (N := 102) (rs := [.cell 2 66]) ok Tryd.func37 rfl (by decide +kernel) rfl rfl (Nat.le_of_ble_eq_true rfl) (fun F => ?_)
  have hE := ok.env F
  unfold r02_schedule at h
  show Run (B.env F) 0 _ ⟨asFr 102 [(0, .sl false (L cU8 b_1048))], []⟩ _
  refine run_textE hE [0, 2] (fr' := [(0, .sl false (L cU8 b_1048)), (2, .ref 0 0)]) (σ' := [.box (C1 u32 ((Arr.rep 64 (0 : UInt32))).l) false]) ⟨_, orcs_nil, ?_⟩ ?_
  · simp only [go_sem, reduceIte, Nat.reduceLT, Nat.reduceEqDiff, Nat.reduceAdd]
  replace h := lt1_some h; obtain ⟨f_1049, hz_1050, h⟩ := h
  refine run_textE hE [0, 2, 3] (fr' := [(0, .sl false (L cU8 b_1048)), (2, .ref 0 0), (3, .ref 1 0)]) (σ' := [.box (C1 u32 ((Arr.rep 64 (0 : UInt32))).l) false, .box (C1 u32 f_1049.l) false]) ⟨_, orcs_nil, ?_⟩ ?_
  · subst hz_1050; simp only [go_sem, reduceIte, Nat.reduceLT, Nat.reduceEqDiff, Nat.reduceAdd, Nat.reduceGT, C1_rep, C1_nil, C1_cons]
  replace h := bind_some1 h; obtain ⟨j_1081, hA_1082, hj_1083⟩ := h
  refine run_join (fun (v : Arr UInt32 64) => (⟨asFr 102 [(2, .ref 0 0), (3, .ref 1 0)], [.box (C1 u32 ((Arr.rep 64 (0 : UInt32))).l) false, .box (C1 u32 v.l) false]⟩ : St)) (fun v => v = j_1081) ?_ ?_
  · have h := hA_1082; clear hA_1082
    refine run_textE hE [0, 2, 3, 4] (fr' := [(0, .sl false (L cU8 b_1048)), (2, .ref 0 0), (3, .ref 1 0), (4, i64 0)]) (σ' := [.box (C1 u32 ((Arr.rep 64 (0 : UInt32))).l) false, .box (C1 u32 f_1049.l) false]) ⟨_, orcs_nil, ?_⟩ ?_
    · simp only [go_sem, reduceIte, Nat.reduceLT, Nat.reduceEqDiff, Nat.reduceAdd]
    refine run_block ?_
    replace h := bind_some1 h; obtain ⟨x_1101, hx_1102, hj_1103⟩ := h
    refine run_loopO hx_1102 (fun (v : Int × Arr UInt32 64) => (⟨asFr 102 [(0, .sl false (L cU8 b_1048)), (2, .ref 0 0), (3, .ref 1 0), (4, i64 v.1)], [.box (C1 u32 ((Arr.rep 64 (0 : UInt32))).l) false, .box (C1 u32 v.2.l) false]⟩ : St)) (weak_sel [0, 1] (by decide) rfl (by simp only [go_sem, reduceIte, Nat.reduceLT, Nat.reduceEqDiff, Nat.reduceAdd]) (by simp only [go_sem, reduceIte, Nat.reduceLT, Nat.reduceEqDiff, Nat.reduceAdd])) ?_
    rintro ⟨i_1091, f_1092⟩ o_1104 h hxx_1105
    replace h : r02_schedule_b1 b_1048 i_1091 f_1092 = some o_1104 := h
    unfold r02_schedule_b1 at h
    refine run_seq ?_
    refine run_textE hE [0, 2, 3, 4, 10] (fr' := [(0, .sl false (L cU8 b_1048)), (2, .ref 0 0), (3, .ref 1 0), (4, i64 i_1091), (10, .bool ((decide (i_1091 < 16))))]) (σ' := [.box (C1 u32 ((Arr.rep 64 (0 : UInt32))).l) false, .box (C1 u32 f_1092.l) false]) ⟨_, orcs_nil, ?_⟩ ?_
    · simp only [go_sem, reduceIte, Nat.reduceLT, Nat.reduceEqDiff, Nat.reduceAdd]
    refine run_condL (b := (decide (i_1091 < 16))) rfl (by decide) (fun hb => ?_) (fun hb => ?_)
    · replace h := ite_t h hb
      refine run_skip ?_
      refine thenK_n ?_
      refine run_seq ?_
      refine run_block ?_
      replace h := chk_some h; obtain ⟨hc_1106, h⟩ := h
      replace h := chk_some h; obtain ⟨hc_1107, h⟩ := h
      replace h := chk_some h; obtain ⟨hc_1108, h⟩ := h
      replace h := chk_some h; obtain ⟨hc_1109, h⟩ := h
      replace h := chk_some h; obtain ⟨hc_1110, h⟩ := h
      replace h := lt1_some h; obtain ⟨f_1111, hz_1112, h⟩ := h
      refine run_drawE0 hE mixed [[], [], [], [2], [1, 2, 3], [1, 2, 3, 4], [1, 2, 3, 4, 5], [1, 2, 3, 4, 5, 6], [], [], [9], [9, 10], [8, 9, 10, 11], [8, 9, 10, 11, 12], [8, 9, 10, 11, 12, 13], [8, 9, 10, 11, 12, 13, 14], [1, 2, 3, 4, 5, 6, 7, 8, 9, 10, 11, 12, 13, 14, 15], [], [], [18], [18, 19], [17, 18, 19, 20], [17, 18, 19, 20, 21], [17, 18, 19, 20, 21, 22], [17, 18, 19, 20, 21, 22, 23], [1, 2, 3, 4, 5, 6, 7, 8, 9, 10, 11, 12, 13, 14, 15, 16, 17, 18, 19, 20, 21, 22, 23, 24], [], [], [27], [27, 28], [26, 27, 28, 29], [26, 27, 28, 29, 30], [26, 27, 28, 29, 30, 31], [1, 2, 3, 4, 5, 6, 7, 8, 9, 10, 11, 12, 13, 14, 15, 16, 17, 18, 19, 20, 21, 22, 23, 24, 25, 26, 27, 28, 29, 30, 31, 32], [0, 1, 2, 3, 4, 5, 6, 7, 8, 9, 10, 11, 12, 13, 14, 15, 16, 17, 18, 19, 20, 21, 22, 23, 24, 25, 26, 27, 28, 29, 30, 31, 32, 33], [0, 1, 2, 3, 4, 5, 6, 7, 8, 9, 10, 11, 12, 13, 14, 15, 16, 17, 18, 19, 20, 21, 22, 23, 24, 25, 26, 27, 28, 29, 30, 31, 32, 33, 34]] (by kernel_rfl) (by kernel_rfl) (wk_block wk_then) [0, 2, 3, 4] (fr' := [(0, .sl false (L cU8 b_1048)), (2, .ref 0 0), (3, .ref 1 0), (4, i64 i_1091)]) (σ' := [.box (C1 u32 ((Arr.rep 64 (0 : UInt32))).l) false, .box (C1 u32 f_1111.l) false]) ⟨_, orcs_nil, ?_⟩ ?_
      · subst hz_1112; simp only [go_sem, reduceIte, Nat.reduceLT, Nat.reduceEqDiff, Nat.reduceAdd, Int.reduceToNat, Nat.reduceLeDiff, hc_1106, hc_1106.2, lt_le hc_1106.2, hc_1107, hc_1107.2, lt_le hc_1107.2, hc_1108, hc_1108.2, lt_le hc_1108.2, hc_1109, hc_1109.2, lt_le hc_1109.2, hc_1110, hc_1110.2, lt_le hc_1110.2]
      refine blockK_n ?_
      refine thenK_n ?_
      refine run_textE0 hE wk_lp [0, 2, 3, 4] (fr' := [(0, .sl false (L cU8 b_1048)), (2, .ref 0 0), (3, .ref 1 0), (4, i64 ((w64 (i_1091 + 1))))]) (σ' := [.box (C1 u32 ((Arr.rep 64 (0 : UInt32))).l) false, .box (C1 u32 f_1111.l) false]) ⟨_, orcs_nil, ?_⟩ ?_
      · simp only [go_sem, reduceIte, Nat.reduceLT, Nat.reduceEqDiff, Nat.reduceAdd]
      obtain rfl := Option.some.inj h
      exact lpK_n (((w64 (i_1091 + 1)), f_1111)) rfl (weak_sel [0, 1] (by decide) rfl (by simp only [go_sem, reduceIte, Nat.reduceLT, Nat.reduceEqDiff, Nat.reduceAdd]) (by simp only [go_sem, reduceIte, Nat.reduceLT, Nat.reduceEqDiff, Nat.reduceAdd]))
    · replace h := ite_f h hb
      refine run_exit ?_
      refine thenK_x ?_
      obtain rfl := Option.some.inj h
      have ex_x_1101 := hxx_1105 _ rfl
      subst ex_x_1101
      have h := hj_1103; clear hj_1103
      refine lpK_x ?_
      refine blockK_x ?_
      obtain rfl := Option.some.inj h
      exact joinK_n f_1092 rfl ((weak_sel (l' := [(2, .ref 0 0), (3, .ref 1 0)]) (σ' := [.box (C1 u32 ((Arr.rep 64 (0 : UInt32))).l) false, .box (C1 u32 f_1092.l) false]) [0, 1] (by decide) rfl (by simp only [go_sem, reduceIte, Nat.reduceLT, Nat.reduceEqDiff, Nat.reduceAdd]) (by simp only [go_sem, reduceIte, Nat.reduceLT, Nat.reduceEqDiff, Nat.reduceAdd])).trans (weak_sel [0, 1] (by decide) rfl (by simp only [go_sem, reduceIte, Nat.reduceLT, Nat.reduceEqDiff, Nat.reduceAdd]) (by simp only [go_sem, reduceIte, Nat.reduceLT, Nat.reduceEqDiff, Nat.reduceAdd])))
  rintro f_1080 rfl
  have h := hj_1083; clear hj_1083
  replace h := bind_some1 h; obtain ⟨j_1191, hA_1192, hj_1193⟩ := h
  refine run_join (fun (v : Arr UInt32 64) => (⟨asFr 102 [(2, .ref 0 0), (3, .ref 1 0)], [.box (C1 u32 ((Arr.rep 64 (0 : UInt32))).l) false, .box (C1 u32 v.l) false]⟩ : St)) (fun v => v = j_1191) ?_ ?_
  · have h := hA_1192; clear hA_1192
    refine run_textE hE [2, 3, 5] (fr' := [(2, .ref 0 0), (3, .ref 1 0), (5, i64 16)]) (σ' := [.box (C1 u32 ((Arr.rep 64 (0 : UInt32))).l) false, .box (C1 u32 f_1080.l) false]) ⟨_, orcs_nil, ?_⟩ ?_
    · simp only [go_sem, reduceIte, Nat.reduceLT, Nat.reduceEqDiff, Nat.reduceAdd]
    refine run_block ?_
    replace h := bind_some1 h; obtain ⟨x_1243, hx_1244, hj_1245⟩ := h
    refine run_loopO hx_1244 (fun (v : Int × Arr UInt32 64) => (⟨asFr 102 [(2, .ref 0 0), (3, .ref 1 0), (5, i64 v.1)], [.box (C1 u32 ((Arr.rep 64 (0 : UInt32))).l) false, .box (C1 u32 v.2.l) false]⟩ : St)) (weak_sel [0, 1] (by decide) rfl (by simp only [go_sem, reduceIte, Nat.reduceLT, Nat.reduceEqDiff, Nat.reduceAdd]) (by simp only [go_sem, reduceIte, Nat.reduceLT, Nat.reduceEqDiff, Nat.reduceAdd])) ?_
    rintro ⟨i_1217, f_1218⟩ o_1246 h hxx_1247
    replace h : r02_schedule_b2 i_1217 f_1218 = some o_1246 := h
    unfold r02_schedule_b2 at h
    refine run_seq ?_
    refine run_textE hE [2, 3, 5, 49] (fr' := [(2, .ref 0 0), (3, .ref 1 0), (5, i64 i_1217), (49, .bool ((decide (i_1217 < 64))))]) (σ' := [.box (C1 u32 ((Arr.rep 64 (0 : UInt32))).l) false, .box (C1 u32 f_1218.l) false]) ⟨_, orcs_nil, ?_⟩ ?_
    · simp only [go_sem, reduceIte, Nat.reduceLT, Nat.reduceEqDiff, Nat.reduceAdd]
    refine run_condL (b := (decide (i_1217 < 64))) rfl (by decide) (fun hb => ?_) (fun hb => ?_)
    · replace h := ite_t h hb
      refine run_skip ?_
      refine thenK_n ?_
      refine run_seq ?_
      refine run_block ?_
      replace h := chk_some h; obtain ⟨hc_1250, h⟩ := h
      replace h := bind_some1 h; obtain ⟨y_1248, hy_1251, h⟩ := h
      replace h := chk_some h; obtain ⟨hc_1252, h⟩ := h
      replace h := bind_some1 h; obtain ⟨y_1249, hy_1253, h⟩ := h
      replace h := chk_some h; obtain ⟨hc_1254, h⟩ := h
      replace h := lt1_some h; obtain ⟨s0_1255, hz_1256, h⟩ := h
      refine run_drawE hE mixed [[], [0], [0, 1], [0, 1, 2], [0, 1, 2, 3], [], [5], [5, 6], [5, 6, 7], [0, 1, 2, 3, 4, 5, 6, 7, 8], [0, 1, 2, 3, 4, 5, 6, 7, 8, 9], [], [11], [11, 12], [11, 12, 13], [11, 12, 13, 14], [0, 1, 2, 3, 4, 5, 6, 7, 8, 9, 10, 11, 12, 13, 14, 15], [0, 1, 2, 3, 4, 5, 6, 7, 8, 9, 10, 11, 12, 13, 14, 15, 16]] (by kernel_rfl) (by kernel_rfl) [2, 3, 5, 6] (fr' := [(2, .ref 0 0), (3, .ref 1 0), (5, i64 i_1217), (6, u32 s0_1255)]) (σ' := [.box (C1 u32 ((Arr.rep 64 (0 : UInt32))).l) false, .box (C1 u32 f_1218.l) false]) ⟨_, orcs_ok (l := [(56, 39, [u32 ((f_1218.get (((w64 (i_1217 - 15))).toNat))), i64 7], u32 y_1248), (61, 39, [u32 ((f_1218.get (((w64 (i_1217 - 15))).toNat))), i64 18], u32 y_1249)]) ⟨r02_rotr_con  hy_1251, r02_rotr_con  hy_1253, trivial⟩, ?_⟩ ?_
      · subst hz_1256; simp only [go_sem, reduceIte, Nat.reduceLT, Nat.reduceEqDiff, Nat.reduceAdd, Int.reduceToNat, hc_1250, hc_1250.2, lt_le hc_1250.2, hc_1252, hc_1252.2, lt_le hc_1252.2, hc_1254, hc_1254.2, lt_le hc_1254.2]
      replace h := chk_some h; obtain ⟨hc_1259, h⟩ := h
      replace h := bind_some1 h; obtain ⟨y_1257, hy_1260, h⟩ := h
      replace h := chk_some h; obtain ⟨hc_1261, h⟩ := h
      replace h := bind_some1 h; obtain ⟨y_1258, hy_1262, h⟩ := h
      replace h := chk_some h; obtain ⟨hc_1263, h⟩ := h
      replace h := lt1_some h; obtain ⟨s1_1264, hz_1265, h⟩ := h
      refine run_drawE hE mixed [[], [0], [0, 1], [0, 1, 2], [0, 1, 2, 3], [], [5], [5, 6], [5, 6, 7], [0, 1, 2, 3, 4, 5, 6, 7, 8], [0, 1, 2, 3, 4, 5, 6, 7, 8, 9], [], [11], [11, 12], [11, 12, 13], [11, 12, 13, 14], [0, 1, 2, 3, 4, 5, 6, 7, 8, 9, 10, 11, 12, 13, 14, 15], [0, 1, 2, 3, 4, 5, 6, 7, 8, 9, 10, 11, 12, 13, 14, 15, 16]] (by kernel_rfl) (by kernel_rfl) [2, 3, 5, 6, 7] (fr' := [(2, .ref 0 0), (3, .ref 1 0), (5, i64 i_1217), (6, u32 s0_1255), (7, u32 s1_1264)]) (σ' := [.box (C1 u32 ((Arr.rep 64 (0 : UInt32))).l) false, .box (C1 u32 f_1218.l) false]) ⟨_, orcs_ok (l := [(73, 39, [u32 ((f_1218.get (((w64 (i_1217 - 2))).toNat))), i64 17], u32 y_1257), (78, 39, [u32 ((f_1218.get (((w64 (i_1217 - 2))).toNat))), i64 19], u32 y_1258)]) ⟨r02_rotr_con  hy_1260, r02_rotr_con  hy_1262, trivial⟩, ?_⟩ ?_
      · subst hz_1265; simp only [go_sem, reduceIte, Nat.reduceLT, Nat.reduceEqDiff, Nat.reduceAdd, Int.reduceToNat, hc_1259, hc_1259.2, lt_le hc_1259.2, hc_1261, hc_1261.2, lt_le hc_1261.2, hc_1263, hc_1263.2, lt_le hc_1263.2]
      replace h := chk_some h; obtain ⟨hc_1266, h⟩ := h
      replace h := chk_some h; obtain ⟨hc_1267, h⟩ := h
      replace h := chk_some h; obtain ⟨hc_1268, h⟩ := h
      replace h := lt1_some h; obtain ⟨f_1269, hz_1270, h⟩ := h
      refine run_drawE0 hE mixed [[], [], [1], [1, 2], [1, 2, 3], [], [1, 2, 3, 4, 5], [], [7], [7, 8], [7, 8, 9], [1, 2, 3, 4, 5, 6, 7, 8, 9, 10], [], [1, 2, 3, 4, 5, 6, 7, 8, 9, 10, 11, 12], [0, 1, 2, 3, 4, 5, 6, 7, 8, 9, 10, 11, 12, 13], [0, 1, 2, 3, 4, 5, 6, 7, 8, 9, 10, 11, 12, 13, 14]] (by kernel_rfl) (by kernel_rfl) (wk_block wk_then) [2, 3, 5] (fr' := [(2, .ref 0 0), (3, .ref 1 0), (5, i64 i_1217)]) (σ' := [.box (C1 u32 ((Arr.rep 64 (0 : UInt32))).l) false, .box (C1 u32 f_1269.l) false]) ⟨_, orcs_nil, ?_⟩ ?_
      · subst hz_1270; simp only [go_sem, reduceIte, Nat.reduceLT, Nat.reduceEqDiff, Nat.reduceAdd, Int.reduceToNat, Nat.reduceLeDiff, hc_1266, hc_1266.2, lt_le hc_1266.2, hc_1267, hc_1267.2, lt_le hc_1267.2, hc_1268, hc_1268.2, lt_le hc_1268.2]
      refine blockK_n ?_
      refine thenK_n ?_
      refine run_textE0 hE wk_lp [2, 3, 5] (fr' := [(2, .ref 0 0), (3, .ref 1 0), (5, i64 ((w64 (i_1217 + 1))))]) (σ' := [.box (C1 u32 ((Arr.rep 64 (0 : UInt32))).l) false, .box (C1 u32 f_1269.l) false]) ⟨_, orcs_nil, ?_⟩ ?_
      · simp only [go_sem, reduceIte, Nat.reduceLT, Nat.reduceEqDiff, Nat.reduceAdd]
      obtain rfl := Option.some.inj h
      exact lpK_n (((w64 (i_1217 + 1)), f_1269)) rfl (weak_sel [0, 1] (by decide) rfl (by simp only [go_sem, reduceIte, Nat.reduceLT, Nat.reduceEqDiff, Nat.reduceAdd]) (by simp only [go_sem, reduceIte, Nat.reduceLT, Nat.reduceEqDiff, Nat.reduceAdd]))
    · replace h := ite_f h hb
      refine run_exit ?_
      refine thenK_x ?_
      obtain rfl := Option.some.inj h
      have ex_x_1243 := hxx_1247 _ rfl
      subst ex_x_1243
      have h := hj_1245; clear hj_1245
      refine lpK_x ?_
      refine blockK_x ?_
      obtain rfl := Option.some.inj h
      exact joinK_n f_1218 rfl ((weak_sel (l' := [(2, .ref 0 0), (3, .ref 1 0)]) (σ' := [.box (C1 u32 ((Arr.rep 64 (0 : UInt32))).l) false, .box (C1 u32 f_1218.l) false]) [0, 1] (by decide) rfl (by simp only [go_sem, reduceIte, Nat.reduceLT, Nat.reduceEqDiff, Nat.reduceAdd]) (by simp only [go_sem, reduceIte, Nat.reduceLT, Nat.reduceEqDiff, Nat.reduceAdd])).trans (weak_sel [0, 1] (by decide) rfl (by simp only [go_sem, reduceIte, Nat.reduceLT, Nat.reduceEqDiff, Nat.reduceAdd]) (by simp only [go_sem, reduceIte, Nat.reduceLT, Nat.reduceEqDiff, Nat.reduceAdd])))
  rintro f_1190 rfl
  have h := hj_1193; clear hj_1193
  refine run_textE hE [2] (fr' := [(2, .ref 0 0)]) (σ' := [.box (C1 u32 f_1190.l) false, .box (C1 u32 f_1190.l) false]) ⟨_, orcs_nil, ?_⟩ ?_
  · simp only [go_sem, reduceIte, Nat.reduceLT, Nat.reduceEqDiff, Nat.reduceAdd]
  refine run_ret ?_
  obtain rfl := Option.some.inj h
  refine ret_ok (.inr rfl) ?_
  simp only [go_sem, reduceIte, Nat.reduceLT, Nat.reduceEqDiff, Nat.reduceAdd]

end Go.Proofs.YtgdiabbgiiemcaaDoor
/-
  The functions compute just that.
-/
namespace Go.Proofs.YtgdiabbgiiemcaaDoor
open Go.Rv
set_option linter.unusedVariables false
set_option linter.unusedSimpArgs false
set_option maxRecDepth 20000

theorem r02_block_con {h_1271 : Arr UInt32 8} {b_1272 : List UInt8} {r : Arr UInt32 8} (h : r02_block h_1271 b_1272 = some r) : Con B 30 [.agg (C1 u32 h_1271.l), .sl false (L cU8 b_1272)] [] (fun r' σ' => r' = .agg (C1 u32 r.l) ∧ σ' = []) := by
  refine con_walk (N := 126) (rs := [.cell 4 56]) ok Tryd.func30 rfl (by decide +kernel) rfl rfl (Nat.le_of_ble_eq_true rfl) (fun F => ?_)
  have hE := ok.env F
  unfold r02_block at h
  show Run (B.env F) 0 _ ⟨asFr 126 [(0, .agg (C1 u32 h_1271.l)), (1, .sl false (L cU8 b_1272))], []⟩ _
  refine run_textE hE [1, 2, 4] (fr' := [(1, .sl false (L cU8 b_1272)), (2, .ref 0 0), (4, .ref 1 0)]) (σ' := [.box (C1 u32 h_1271.l) false, .box (C1 u32 ((Arr.rep 8 (0 : UInt32))).l) false]) ⟨_, orcs_nil, ?_⟩ ?_
  · simp only [go_sem, reduceIte, Nat.reduceLT, Nat.reduceEqDiff, Nat.reduceAdd]
  replace h := bind_some1 h; obtain ⟨y_1273, hy_1274, h⟩ := h
  refine run_textE hE [2, 4, 5] (fr' := [(2, .ref 0 0), (4, .ref 1 0), (5, .ref 2 0)]) (σ' := [.box (C1 u32 h_1271.l) false, .box (C1 u32 ((Arr.rep 8 (0 : UInt32))).l) false, .box (C1 u32 y_1273.l) false]) ⟨_, orcs_ok (l := [(17, 37, [.sl false (L cU8 b_1272)], .agg (C1 u32 y_1273.l))]) ⟨r02_schedule_con  hy_1274, trivial⟩, ?_⟩ ?_
  · simp only [go_sem, reduceIte, Nat.reduceLT, Nat.reduceEqDiff, Nat.reduceAdd]
  replace h := bind_some1 h; obtain ⟨y_1275, hy_1276, h⟩ := h
  refine run_textE hE [2, 4, 5, 6] (fr' := [(2, .ref 0 0), (4, .ref 1 0), (5, .ref 2 0), (6, .ref 3 0)]) (σ' := [.box (C1 u32 h_1271.l) false, .box (C1 u32 ((Arr.rep 8 (0 : UInt32))).l) false, .box (C1 u32 y_1273.l) false, .box (C1 u32 y_1275.l) false]) ⟨_, orcs_ok (l := [(18, 38, [], .agg (C1 u32 y_1275.l))]) ⟨r02_constants_con  hy_1276, trivial⟩, ?_⟩ ?_
  · simp only [go_sem, reduceIte, Nat.reduceLT, Nat.reduceEqDiff, Nat.reduceAdd]
  refine run_textE hE [2, 4, 5, 6, 7] (fr' := [(2, .ref 0 0), (4, .ref 1 0), (5, .ref 2 0), (6, .ref 3 0), (7, .ref 4 0)]) (σ' := [.box (C1 u32 h_1271.l) false, .box (C1 u32 ((Arr.rep 8 (0 : UInt32))).l) false, .box (C1 u32 y_1273.l) false, .box (C1 u32 y_1275.l) false, .box (C1 u32 h_1271.l) false]) ⟨_, orcs_nil, ?_⟩ ?_
  · simp only [go_sem, reduceIte, Nat.reduceLT, Nat.reduceEqDiff, Nat.reduceAdd]
  replace h := bind_some1 h; obtain ⟨j_1436, hA_1437, hj_1438⟩ := h
  refine run_join (fun (v : Arr UInt32 8) => (⟨asFr 126 [(2, .ref 0 0), (4, .ref 1 0), (7, .ref 2 0)], [.box (C1 u32 h_1271.l) false, .box (C1 u32 ((Arr.rep 8 (0 : UInt32))).l) false, .box (C1 u32 v.l) false]⟩ : St)) (fun v => v = j_1436) ?_ ?_
  · have h := hA_1437; clear hA_1437
    refine run_textE hE [2, 4, 5, 6, 7, 8] (fr' := [(2, .ref 0 0), (4, .ref 1 0), (5, .ref 2 0), (6, .ref 3 0), (7, .ref 4 0), (8, i64 0)]) (σ' := [.box (C1 u32 h_1271.l) false, .box (C1 u32 ((Arr.rep 8 (0 : UInt32))).l) false, .box (C1 u32 y_1273.l) false, .box (C1 u32 y_1275.l) false, .box (C1 u32 h_1271.l) false]) ⟨_, orcs_nil, ?_⟩ ?_
    · simp only [go_sem, reduceIte, Nat.reduceLT, Nat.reduceEqDiff, Nat.reduceAdd]
    refine run_block ?_
    replace h := bind_some1 h; obtain ⟨x_1542, hx_1543, hj_1544⟩ := h
    refine run_loopO hx_1543 (fun (v : Int × Arr UInt32 8) => (⟨asFr 126 [(2, .ref 0 0), (4, .ref 1 0), (5, .ref 2 0), (6, .ref 3 0), (7, .ref 4 0), (8, i64 v.1)], [.box (C1 u32 h_1271.l) false, .box (C1 u32 ((Arr.rep 8 (0 : UInt32))).l) false, .box (C1 u32 y_1273.l) false, .box (C1 u32 y_1275.l) false, .box (C1 u32 v.2.l) false]⟩ : St)) (weak_sel [0, 1, 2, 3, 4] (by decide) rfl (by simp only [go_sem, reduceIte, Nat.reduceLT, Nat.reduceEqDiff, Nat.reduceAdd]) (by simp only [go_sem, reduceIte, Nat.reduceLT, Nat.reduceEqDiff, Nat.reduceAdd])) ?_
    rintro ⟨i_1489, f_1490⟩ o_1545 h hxx_1546
    replace h : r02_block_b1 y_1273 y_1275 i_1489 f_1490 = some o_1545 := h
    unfold r02_block_b1 at h
    refine run_seq ?_
    refine run_textE hE [2, 4, 5, 6, 7, 8, 21] (fr' := [(2, .ref 0 0), (4, .ref 1 0), (5, .ref 2 0), (6, .ref 3 0), (7, .ref 4 0), (8, i64 i_1489), (21, .bool ((decide (i_1489 < 64))))]) (σ' := [.box (C1 u32 h_1271.l) false, .box (C1 u32 ((Arr.rep 8 (0 : UInt32))).l) false, .box (C1 u32 y_1273.l) false, .box (C1 u32 y_1275.l) false, .box (C1 u32 f_1490.l) false]) ⟨_, orcs_nil, ?_⟩ ?_
    · simp only [go_sem, reduceIte, Nat.reduceLT, Nat.reduceEqDiff, Nat.reduceAdd]
    refine run_condL (b := (decide (i_1489 < 64))) rfl (by decide) (fun hb => ?_) (fun hb => ?_)
    · replace h := ite_t h hb
      refine run_skip ?_
      refine thenK_n ?_
      refine run_seq ?_
      refine run_block ?_
      have hk_1550 : InR 4 8 := by decide
      replace h := bind_some1 h; obtain ⟨y_1547, hy_1551, h⟩ := h
      have hk_1552 : InR 4 8 := by decide
      replace h := bind_some1 h; obtain ⟨y_1548, hy_1553, h⟩ := h
      have hk_1554 : InR 4 8 := by decide
      replace h := bind_some1 h; obtain ⟨y_1549, hy_1555, h⟩ := h
      replace h := lt1_some h; obtain ⟨s1_1556, hz_1557, h⟩ := h
      refine run_drawE hE mixed [[], [0], [0, 1], [], [3], [0, 1, 2, 3, 4], [0, 1, 2, 3, 4, 5], [], [7], [0, 1, 2, 3, 4, 5, 7, 8], [0, 1, 2, 3, 4, 5, 6, 7, 8, 9], [0, 1, 2, 3, 4, 5, 6, 7, 8, 9, 10]] (by kernel_rfl) (by kernel_rfl) [2, 4, 5, 6, 7, 8, 9] (fr' := [(2, .ref 0 0), (4, .ref 1 0), (5, .ref 2 0), (6, .ref 3 0), (7, .ref 4 0), (8, i64 i_1489), (9, u32 s1_1556)]) (σ' := [.box (C1 u32 h_1271.l) false, .box (C1 u32 ((Arr.rep 8 (0 : UInt32))).l) false, .box (C1 u32 y_1273.l) false, .box (C1 u32 y_1275.l) false, .box (C1 u32 f_1490.l) false]) ⟨_, orcs_ok (l := [(26, 39, [u32 ((f_1490.get 4)), i64 6], u32 y_1547), (29, 39, [u32 ((f_1490.get 4)), i64 11], u32 y_1548), (33, 39, [u32 ((f_1490.get 4)), i64 25], u32 y_1549)]) ⟨r02_rotr_con  hy_1551, r02_rotr_con  hy_1553, r02_rotr_con  hy_1555, trivial⟩, ?_⟩ ?_
      · subst hz_1557; simp only [go_sem, reduceIte, Nat.reduceLT, Nat.reduceEqDiff, Nat.reduceAdd, Int.reduceToNat, hk_1550, hk_1550.2, hk_1552, hk_1552.2, hk_1554, hk_1554.2]
      have hk_1558 : InR 4 8 := by decide
      have hk_1559 : InR 5 8 := by decide
      have hk_1560 : InR 4 8 := by decide
      have hk_1561 : InR 6 8 := by decide
      replace h := lt1_some h; obtain ⟨choice_1562, hz_1563, h⟩ := h
      refine run_textE hE [2, 4, 5, 6, 7, 8, 9, 10] (fr' := [(2, .ref 0 0), (4, .ref 1 0), (5, .ref 2 0), (6, .ref 3 0), (7, .ref 4 0), (8, i64 i_1489), (9, u32 s1_1556), (10, u32 choice_1562)]) (σ' := [.box (C1 u32 h_1271.l) false, .box (C1 u32 ((Arr.rep 8 (0 : UInt32))).l) false, .box (C1 u32 y_1273.l) false, .box (C1 u32 y_1275.l) false, .box (C1 u32 f_1490.l) false]) ⟨_, orcs_nil, ?_⟩ ?_
      · subst hz_1563; simp only [go_sem, reduceIte, Nat.reduceLT, Nat.reduceEqDiff, Nat.reduceAdd, Int.reduceToNat, hk_1558, hk_1558.2, hk_1559, hk_1559.2, hk_1560, hk_1560.2, hk_1561, hk_1561.2]
      have hk_1564 : InR 7 8 := by decide
      replace h := chk_some h; obtain ⟨hc_1565, h⟩ := h
      replace h := chk_some h; obtain ⟨hc_1566, h⟩ := h
      replace h := lt1_some h; obtain ⟨t1_1567, hz_1568, h⟩ := h
      refine run_drawE hE mixed [[], [0], [], [0, 1, 2], [], [0, 1, 2, 3, 4], [], [6], [6, 7], [0, 1, 2, 3, 4, 5, 6, 7, 8], [], [10], [10, 11], [0, 1, 2, 3, 4, 5, 6, 7, 8, 9, 10, 11, 12], [0, 1, 2, 3, 4, 5, 6, 7, 8, 9, 10, 11, 12, 13]] (by kernel_rfl) (by kernel_rfl) [2, 4, 5, 6, 7, 8, 11] (fr' := [(2, .ref 0 0), (4, .ref 1 0), (5, .ref 2 0), (6, .ref 3 0), (7, .ref 4 0), (8, i64 i_1489), (11, u32 t1_1567)]) (σ' := [.box (C1 u32 h_1271.l) false, .box (C1 u32 ((Arr.rep 8 (0 : UInt32))).l) false, .box (C1 u32 y_1273.l) false, .box (C1 u32 y_1275.l) false, .box (C1 u32 f_1490.l) false]) ⟨_, orcs_nil, ?_⟩ ?_
      · subst hz_1568; simp only [go_sem, reduceIte, Nat.reduceLT, Nat.reduceEqDiff, Nat.reduceAdd, Int.reduceToNat, hk_1564, hk_1564.2, hc_1565, hc_1565.2, lt_le hc_1565.2, hc_1566, hc_1566.2, lt_le hc_1566.2]
      have hk_1572 : InR 0 8 := by decide
      replace h := bind_some1 h; obtain ⟨y_1569, hy_1573, h⟩ := h
      have hk_1574 : InR 0 8 := by decide
      replace h := bind_some1 h; obtain ⟨y_1570, hy_1575, h⟩ := h
      have hk_1576 : InR 0 8 := by decide
      replace h := bind_some1 h; obtain ⟨y_1571, hy_1577, h⟩ := h
      replace h := lt1_some h; obtain ⟨s0_1578, hz_1579, h⟩ := h
      refine run_drawE hE mixed [[], [0], [0, 1], [], [3], [0, 1, 2, 3, 4], [0, 1, 2, 3, 4, 5], [], [7], [0, 1, 2, 3, 4, 5, 7, 8], [0, 1, 2, 3, 4, 5, 6, 7, 8, 9], [0, 1, 2, 3, 4, 5, 6, 7, 8, 9, 10]] (by kernel_rfl) (by kernel_rfl) [2, 4, 5, 6, 7, 8, 11, 12] (fr' := [(2, .ref 0 0), (4, .ref 1 0), (5, .ref 2 0), (6, .ref 3 0), (7, .ref 4 0), (8, i64 i_1489), (11, u32 t1_1567), (12, u32 s0_1578)]) (σ' := [.box (C1 u32 h_1271.l) false, .box (C1 u32 ((Arr.rep 8 (0 : UInt32))).l) false, .box (C1 u32 y_1273.l) false, .box (C1 u32 y_1275.l) false, .box (C1 u32 f_1490.l) false]) ⟨_, orcs_ok (l := [(63, 39, [u32 ((f_1490.get 0)), i64 2], u32 y_1569), (66, 39, [u32 ((f_1490.get 0)), i64 13], u32 y_1570), (70, 39, [u32 ((f_1490.get 0)), i64 22], u32 y_1571)]) ⟨r02_rotr_con  hy_1573, r02_rotr_con  hy_1575, r02_rotr_con  hy_1577, trivial⟩, ?_⟩ ?_
      · subst hz_1579; simp only [go_sem, reduceIte, Nat.reduceLT, Nat.reduceEqDiff, Nat.reduceAdd, Int.reduceToNat, hk_1572, hk_1572.2, hk_1574, hk_1574.2, hk_1576, hk_1576.2]
      have hk_1580 : InR 0 8 := by decide
      have hk_1581 : InR 1 8 := by decide
      have hk_1582 : InR 0 8 := by decide
      have hk_1583 : InR 2 8 := by decide
      have hk_1584 : InR 1 8 := by decide
      have hk_1585 : InR 2 8 := by decide
      replace h := lt1_some h; obtain ⟨majority_1586, hz_1587, h⟩ := h
      refine run_textE hE [2, 4, 5, 6, 7, 8, 11, 12, 13] (fr' := [(2, .ref 0 0), (4, .ref 1 0), (5, .ref 2 0), (6, .ref 3 0), (7, .ref 4 0), (8, i64 i_1489), (11, u32 t1_1567), (12, u32 s0_1578), (13, u32 majority_1586)]) (σ' := [.box (C1 u32 h_1271.l) false, .box (C1 u32 ((Arr.rep 8 (0 : UInt32))).l) false, .box (C1 u32 y_1273.l) false, .box (C1 u32 y_1275.l) false, .box (C1 u32 f_1490.l) false]) ⟨_, orcs_nil, ?_⟩ ?_
      · subst hz_1587; simp only [go_sem, reduceIte, Nat.reduceLT, Nat.reduceEqDiff, Nat.reduceAdd, Int.reduceToNat, hk_1580, hk_1580.2, hk_1581, hk_1581.2, hk_1582, hk_1582.2, hk_1583, hk_1583.2, hk_1584, hk_1584.2, hk_1585, hk_1585.2]
      refine run_textE hE [2, 4, 5, 6, 7, 8, 11, 14] (fr' := [(2, .ref 0 0), (4, .ref 1 0), (5, .ref 2 0), (6, .ref 3 0), (7, .ref 4 0), (8, i64 i_1489), (11, u32 t1_1567), (14, u32 ((s0_1578 + majority_1586)))]) (σ' := [.box (C1 u32 h_1271.l) false, .box (C1 u32 ((Arr.rep 8 (0 : UInt32))).l) false, .box (C1 u32 y_1273.l) false, .box (C1 u32 y_1275.l) false, .box (C1 u32 f_1490.l) false]) ⟨_, orcs_nil, ?_⟩ ?_
      · simp only [go_sem, reduceIte, Nat.reduceLT, Nat.reduceEqDiff, Nat.reduceAdd]
      have hk_1588 : InR 0 8 := by decide
      have hk_1589 : InR 1 8 := by decide
      have hk_1590 : InR 2 8 := by decide
      have hk_1591 : InR 3 8 := by decide
      have hk_1592 : InR 4 8 := by decide
      have hk_1593 : InR 5 8 := by decide
      have hk_1594 : InR 6 8 := by decide
      replace h := lt1_some h; obtain ⟨f_1595, hz_1596, h⟩ := h
      refine run_textE0 hE (wk_block wk_then) [2, 4, 5, 6, 7, 8] (fr' := [(2, .ref 0 0), (4, .ref 1 0), (5, .ref 2 0), (6, .ref 3 0), (7, .ref 4 0), (8, i64 i_1489)]) (σ' := [.box (C1 u32 h_1271.l) false, .box (C1 u32 ((Arr.rep 8 (0 : UInt32))).l) false, .box (C1 u32 y_1273.l) false, .box (C1 u32 y_1275.l) false, .box (C1 u32 f_1595.l) false]) ⟨_, orcs_nil, ?_⟩ ?_
      · subst hz_1596; simp only [go_sem, reduceIte, Nat.reduceLT, Nat.reduceEqDiff, Nat.reduceAdd, Nat.reduceGT, Int.reduceToNat, Nat.reduceLeDiff, hk_1588, hk_1588.2, hk_1589, hk_1589.2, hk_1590, hk_1590.2, hk_1591, hk_1591.2, hk_1592, hk_1592.2, hk_1593, hk_1593.2, hk_1594, hk_1594.2, C1_rep, C1_nil, C1_cons]
      refine blockK_n ?_
      refine thenK_n ?_
      refine run_textE0 hE wk_lp [2, 4, 5, 6, 7, 8] (fr' := [(2, .ref 0 0), (4, .ref 1 0), (5, .ref 2 0), (6, .ref 3 0), (7, .ref 4 0), (8, i64 ((w64 (i_1489 + 1))))]) (σ' := [.box (C1 u32 h_1271.l) false, .box (C1 u32 ((Arr.rep 8 (0 : UInt32))).l) false, .box (C1 u32 y_1273.l) false, .box (C1 u32 y_1275.l) false, .box (C1 u32 f_1595.l) false]) ⟨_, orcs_nil, ?_⟩ ?_
      · simp only [go_sem, reduceIte, Nat.reduceLT, Nat.reduceEqDiff, Nat.reduceAdd]
      obtain rfl := Option.some.inj h
      exact lpK_n (((w64 (i_1489 + 1)), f_1595)) rfl (weak_sel [0, 1, 2, 3, 4] (by decide) rfl (by simp only [go_sem, reduceIte, Nat.reduceLT, Nat.reduceEqDiff, Nat.reduceAdd]) (by simp only [go_sem, reduceIte, Nat.reduceLT, Nat.reduceEqDiff, Nat.reduceAdd]))
    · replace h := ite_f h hb
      refine run_exit ?_
      refine thenK_x ?_
      obtain rfl := Option.some.inj h
      have ex_x_1542 := hxx_1546 _ rfl
      subst ex_x_1542
      have h := hj_1544; clear hj_1544
      refine lpK_x ?_
      refine blockK_x ?_
      obtain rfl := Option.some.inj h
      exact joinK_n f_1490 rfl ((weak_sel (l' := [(2, .ref 0 0), (4, .ref 1 0), (7, .ref 2 0)]) (σ' := [.box (C1 u32 h_1271.l) false, .box (C1 u32 ((Arr.rep 8 (0 : UInt32))).l) false, .box (C1 u32 f_1490.l) false]) [0, 1, 4] (by decide) rfl (by simp only [go_sem, reduceIte, Nat.reduceLT, Nat.reduceEqDiff, Nat.reduceAdd]) (by simp only [go_sem, reduceIte, Nat.reduceLT, Nat.reduceEqDiff, Nat.reduceAdd])).trans (weak_sel [0, 1, 2] (by decide) rfl (by simp only [go_sem, reduceIte, Nat.reduceLT, Nat.reduceEqDiff, Nat.reduceAdd]) (by simp only [go_sem, reduceIte, Nat.reduceLT, Nat.reduceEqDiff, Nat.reduceAdd])))
  rintro f_1435 rfl
  have h := hj_1438; clear hj_1438
  replace h := bind_some1 h; obtain ⟨j_1621, hA_1622, hj_1623⟩ := h
  refine run_join (fun (v : Arr UInt32 8) => (⟨asFr 126 [(2, .ref 0 0), (4, .ref 1 0)], [.box (C1 u32 v.l) false, .box (C1 u32 ((Arr.rep 8 (0 : UInt32))).l) false]⟩ : St)) (fun v => v = j_1621) ?_ ?_
  · have h := hA_1622; clear hA_1622
    refine run_textE hE [2, 4, 7, 15] (fr' := [(2, .ref 0 0), (4, .ref 1 0), (7, .ref 2 0), (15, i64 0)]) (σ' := [.box (C1 u32 h_1271.l) false, .box (C1 u32 ((Arr.rep 8 (0 : UInt32))).l) false, .box (C1 u32 f_1435.l) false]) ⟨_, orcs_nil, ?_⟩ ?_
    · simp only [go_sem, reduceIte, Nat.reduceLT, Nat.reduceEqDiff, Nat.reduceAdd]
    refine run_block ?_
    replace h := bind_some1 h; obtain ⟨x_1637, hx_1638, hj_1639⟩ := h
    refine run_loopO hx_1638 (fun (v : Int × Arr UInt32 8) => (⟨asFr 126 [(2, .ref 0 0), (4, .ref 1 0), (7, .ref 2 0), (15, i64 v.1)], [.box (C1 u32 v.2.l) false, .box (C1 u32 ((Arr.rep 8 (0 : UInt32))).l) false, .box (C1 u32 f_1435.l) false]⟩ : St)) (weak_sel [0, 1, 2] (by decide) rfl (by simp only [go_sem, reduceIte, Nat.reduceLT, Nat.reduceEqDiff, Nat.reduceAdd]) (by simp only [go_sem, reduceIte, Nat.reduceLT, Nat.reduceEqDiff, Nat.reduceAdd])) ?_
    rintro ⟨i_1629, f_1630⟩ o_1640 h hxx_1641
    replace h : r02_block_b2 f_1435 i_1629 f_1630 = some o_1640 := h
    unfold r02_block_b2 at h
    refine run_seq ?_
    refine run_textE hE [2, 4, 7, 15, 113] (fr' := [(2, .ref 0 0), (4, .ref 1 0), (7, .ref 2 0), (15, i64 i_1629), (113, .bool ((decide (i_1629 < 8))))]) (σ' := [.box (C1 u32 f_1630.l) false, .box (C1 u32 ((Arr.rep 8 (0 : UInt32))).l) false, .box (C1 u32 f_1435.l) false]) ⟨_, orcs_nil, ?_⟩ ?_
    · simp only [go_sem, reduceIte, Nat.reduceLT, Nat.reduceEqDiff, Nat.reduceAdd]
    refine run_condL (b := (decide (i_1629 < 8))) rfl (by decide) (fun hb => ?_) (fun hb => ?_)
    · replace h := ite_t h hb
      refine run_skip ?_
      refine thenK_n ?_
      refine run_seq ?_
      refine run_block ?_
      replace h := chk_some h; obtain ⟨hc_1642, h⟩ := h
      replace h := chk_some h; obtain ⟨hc_1643, h⟩ := h
      replace h := chk_some h; obtain ⟨hc_1644, h⟩ := h
      replace h := lt1_some h; obtain ⟨f_1645, hz_1646, h⟩ := h
      refine run_drawE0 hE mixed [[], [], [1], [1, 2], [], [4], [4, 5], [1, 2, 3, 4, 5, 6], [0, 1, 2, 3, 4, 5, 6, 7], [0, 1, 2, 3, 4, 5, 6, 7, 8]] (by kernel_rfl) (by kernel_rfl) (wk_block wk_then) [2, 4, 7, 15] (fr' := [(2, .ref 0 0), (4, .ref 1 0), (7, .ref 2 0), (15, i64 i_1629)]) (σ' := [.box (C1 u32 f_1645.l) false, .box (C1 u32 ((Arr.rep 8 (0 : UInt32))).l) false, .box (C1 u32 f_1435.l) false]) ⟨_, orcs_nil, ?_⟩ ?_
      · subst hz_1646; simp only [go_sem, reduceIte, Nat.reduceLT, Nat.reduceEqDiff, Nat.reduceAdd, Int.reduceToNat, Nat.reduceLeDiff, hc_1642, hc_1642.2, lt_le hc_1642.2, hc_1643, hc_1643.2, lt_le hc_1643.2, hc_1644, hc_1644.2, lt_le hc_1644.2]
      refine blockK_n ?_
      refine thenK_n ?_
      refine run_textE0 hE wk_lp [2, 4, 7, 15] (fr' := [(2, .ref 0 0), (4, .ref 1 0), (7, .ref 2 0), (15, i64 ((w64 (i_1629 + 1))))]) (σ' := [.box (C1 u32 f_1645.l) false, .box (C1 u32 ((Arr.rep 8 (0 : UInt32))).l) false, .box (C1 u32 f_1435.l) false]) ⟨_, orcs_nil, ?_⟩ ?_
      · simp only [go_sem, reduceIte, Nat.reduceLT, Nat.reduceEqDiff, Nat.reduceAdd]
      obtain rfl := Option.some.inj h
      exact lpK_n (((w64 (i_1629 + 1)), f_1645)) rfl (weak_sel [0, 1, 2] (by decide) rfl (by simp only [go_sem, reduceIte, Nat.reduceLT, Nat.reduceEqDiff, Nat.reduceAdd]) (by simp only [go_sem, reduceIte, Nat.reduceLT, Nat.reduceEqDiff, Nat.reduceAdd]))
    · replace h := ite_f h hb
      refine run_exit ?_
      refine thenK_x ?_
      obtain rfl := Option.some.inj h
      have ex_x_1637 := hxx_1641 _ rfl
      subst ex_x_1637
      have h := hj_1639; clear hj_1639
      refine lpK_x ?_
      refine blockK_x ?_
      obtain rfl := Option.some.inj h
      exact joinK_n f_1630 rfl ((weak_sel (l' := [(2, .ref 0 0), (4, .ref 1 0)]) (σ' := [.box (C1 u32 f_1630.l) false, .box (C1 u32 ((Arr.rep 8 (0 : UInt32))).l) false]) [0, 1] (by decide) rfl (by simp only [go_sem, reduceIte, Nat.reduceLT, Nat.reduceEqDiff, Nat.reduceAdd]) (by simp only [go_sem, reduceIte, Nat.reduceLT, Nat.reduceEqDiff, Nat.reduceAdd])).trans (weak_sel [0, 1] (by decide) rfl (by simp only [go_sem, reduceIte, Nat.reduceLT, Nat.reduceEqDiff, Nat.reduceAdd]) (by simp only [go_sem, reduceIte, Nat.reduceLT, Nat.reduceEqDiff, Nat.reduceAdd])))
  rintro f_1620 rfl
  have h := hj_1623; clear hj_1623
  refine run_textE hE [4] (fr' := [(4, .ref 1 0)]) (σ' := [.box (C1 u32 f_1620.l) false, .box (C1 u32 f_1620.l) false]) ⟨_, orcs_nil, ?_⟩ ?_
  · simp only [go_sem, reduceIte, Nat.reduceLT, Nat.reduceEqDiff, Nat.reduceAdd]
  refine run_ret ?_
  obtain rfl := Option.some.inj h
  refine ret_ok (.inr rfl) ?_
  simp only [go_sem, reduceIte, Nat.reduceLT, Nat.reduceEqDiff, Nat.reduceAdd]

end Go.Proofs.YtgdiabbgiiemcaaDoor
/-
  The functions compute just that.
-/
namespace Go.Proofs.YtgdiabbgiiemcaaDoor
open Go.Rv
set_option linter.unusedVariables false
set_option linter.unusedSimpArgs false
set_option maxRecDepth 20000

theorem r02_padded_con {b_2143 : List UInt8} {r : List UInt8} (h : r02_padded b_2143 = some r) : Con B 29 [.sl false (L cU8 b_2143)] [] (fun r' σ' => r' = .sl false (L cU8 r) ∧ σ' = []) := by
  refine con_walk (N := 38) (rs := [.tmp 2]) ok Tryd.func29 rfl (by decide +kernel) rfl rfl (Nat.le_of_ble_eq_true rfl) (fun F => ?_)
  have hE := ok.env F
  unfold r02_padded at h
  show Run (B.env F) 0 _ ⟨asFr 38 [(0, .sl false (L cU8 b_2143))], []⟩ _
  refine run_textE hE [0] (fr' := [(0, .sl false (L cU8 b_2143))]) (σ' := []) ⟨_, orcs_nil, ?_⟩ ?_
  · simp only [go_sem, reduceIte, Nat.reduceLT, Nat.reduceEqDiff, Nat.reduceAdd]
  replace h := lt1_some h; obtain ⟨l_2144, hz_2145, h⟩ := h
  refine run_textE hE [0, 3] (fr' := [(0, .sl false (L cU8 b_2143)), (3, .bs true 0 (l_2144.length) 0 (l_2144.length))]) (σ' := [.buf 1 (L cU8 l_2144) false]) ⟨_, orcs_nil, ?_⟩ ?_
  · subst hz_2145; simp only [go_sem, reduceIte, Nat.reduceLT, Nat.reduceEqDiff, Nat.reduceAdd, Nat.reduceBEq, Nat.reduceMul, Nat.reduceSub, Nat.reduceGT, Nat.reducePow, Nat.reduceLeDiff, Int.reduceToNat]
  replace h := chk_some h; obtain ⟨hc_2146, h⟩ := h
  replace h := lt1_some h; obtain ⟨l_2147, hz_2148, h⟩ := h
  refine run_textE hE [0, 3] (fr' := [(0, .sl false (L cU8 b_2143)), (3, .bs false 0 (l_2147.length) 0 (l_2147.length))]) (σ' := [.buf 1 (L cU8 l_2147) false]) ⟨_, orcs_nil, ?_⟩ ?_
  · subst hz_2148; simp only [go_sem, reduceIte, Nat.reduceLT, Nat.reduceEqDiff, Nat.reduceAdd, hc_2146]
  replace h := chk_some h; obtain ⟨hc_2149, h⟩ := h
  replace h := lt1_some h; obtain ⟨l_2150, hz_2151, h⟩ := h
  refine run_textE hE [0, 3] (fr' := [(0, .sl false (L cU8 b_2143)), (3, .bs false 0 (l_2150.length) 0 (l_2150.length))]) (σ' := [.buf 1 (L cU8 l_2150) false, .buf 1 (L cU8 (([(128 : UInt8)] : List UInt8))) false]) ⟨_, orcs_nil, ?_⟩ ?_
  · subst hz_2151; simp only [go_sem, reduceIte, Nat.reduceLT, Nat.reduceEqDiff, Nat.reduceAdd, Nat.reduceBEq, Nat.reduceMul, Nat.reduceSub, Nat.reduceGT, Nat.reducePow, Nat.reduceLeDiff, Int.reduceToNat, hc_2149]
  replace h := bind_some1 h; obtain ⟨j_2172, hA_2173, hj_2174⟩ := h
  refine run_join (fun (v : List UInt8) => (⟨asFr 38 [(0, .sl false (L cU8 b_2143)), (3, .bs false 0 (v.length) 0 (v.length))], [.buf 1 (L cU8 v) false]⟩ : St)) (fun v => v = j_2172) ?_ ?_
  · have h := hA_2173; clear hA_2173
    refine run_block ?_
    replace h := bind_some1 h; obtain ⟨x_2185, hx_2186, hj_2187⟩ := h
    refine run_loopO hx_2186 (fun (v : List UInt8) => (⟨asFr 38 [(0, .sl false (L cU8 b_2143)), (3, .bs false 0 (v.length) 0 (v.length))], [.buf 1 (L cU8 v) false]⟩ : St)) (weak_sel [0] (by decide) rfl (by simp only [go_sem, reduceIte, Nat.reduceLT, Nat.reduceEqDiff, Nat.reduceAdd]) (by simp only [go_sem, reduceIte, Nat.reduceLT, Nat.reduceEqDiff, Nat.reduceAdd])) ?_
    rintro l_2179 o_2188 h hxx_2189
    replace h : r02_padded_b1 l_2179 = some o_2188 := h
    unfold r02_padded_b1 at h
    refine run_seq ?_
    have hk_2190 : ¬(64 : Int) = 0 := by decide
    refine run_textE hE [0, 3, 16] (fr' := [(0, .sl false (L cU8 b_2143)), (3, .bs false 0 (l_2179.length) 0 (l_2179.length)), (16, .bool (((((l_2179.length : Int) : Int).tmod 64) != 56)))]) (σ' := [.buf 1 (L cU8 l_2179) false]) ⟨_, orcs_nil, ?_⟩ ?_
    · simp only [go_sem, reduceIte, Nat.reduceLT, Nat.reduceEqDiff, Nat.reduceAdd, hk_2190]
    refine run_condL (b := ((((l_2179.length : Int) : Int).tmod 64) != 56)) rfl (by decide) (fun hb => ?_) (fun hb => ?_)
    · replace h := ite_t h hb
      refine run_skip ?_
      refine thenK_n ?_
      refine run_block ?_
      replace h := chk_some h; obtain ⟨hc_2191, h⟩ := h
      replace h := lt1_some h; obtain ⟨l_2192, hz_2193, h⟩ := h
      refine run_textE0 hE (wk_block wk_lp) [0, 3] (fr' := [(0, .sl false (L cU8 b_2143)), (3, .bs false 0 (l_2192.length) 0 (l_2192.length))]) (σ' := [.buf 1 (L cU8 l_2192) false, .buf 1 (L cU8 (([(0 : UInt8)] : List UInt8))) false]) ⟨_, orcs_nil, ?_⟩ ?_
      · subst hz_2193; simp only [go_sem, reduceIte, Nat.reduceLT, Nat.reduceEqDiff, Nat.reduceAdd, Nat.reduceBEq, Nat.reduceMul, Nat.reduceSub, Nat.reduceGT, Nat.reducePow, Nat.reduceLeDiff, Int.reduceToNat, hc_2191]
      refine blockK_n ?_
      obtain rfl := Option.some.inj h
      exact lpK_n l_2192 rfl (weak_sel [0] (by decide) rfl (by simp only [go_sem, reduceIte, Nat.reduceLT, Nat.reduceEqDiff, Nat.reduceAdd]) (by simp only [go_sem, reduceIte, Nat.reduceLT, Nat.reduceEqDiff, Nat.reduceAdd]))
    · replace h := ite_f h hb
      refine run_exit ?_
      refine thenK_x ?_
      obtain rfl := Option.some.inj h
      have ex_x_2185 := hxx_2189 _ rfl
      subst ex_x_2185
      have h := hj_2187; clear hj_2187
      refine lpK_x ?_
      refine blockK_x ?_
      obtain rfl := Option.some.inj h
      exact joinK_n l_2179 rfl ((weak_sel (l' := [(0, .sl false (L cU8 b_2143)), (3, .bs false 0 (l_2179.length) 0 (l_2179.length))]) (σ' := [.buf 1 (L cU8 l_2179) false]) [0] (by decide) rfl (by simp only [go_sem, reduceIte, Nat.reduceLT, Nat.reduceEqDiff, Nat.reduceAdd]) (by simp only [go_sem, reduceIte, Nat.reduceLT, Nat.reduceEqDiff, Nat.reduceAdd])).trans (weak_sel [0] (by decide) rfl (by simp only [go_sem, reduceIte, Nat.reduceLT, Nat.reduceEqDiff, Nat.reduceAdd]) (by simp only [go_sem, reduceIte, Nat.reduceLT, Nat.reduceEqDiff, Nat.reduceAdd])))
  rintro l_2171 rfl
  have h := hj_2174; clear hj_2174
  replace h := lt1_some h; obtain ⟨n_2194, hz_2195, h⟩ := h
  refine run_textE hE [3, 4] (fr' := [(3, .bs false 0 (l_2171.length) 0 (l_2171.length)), (4, u64 n_2194)]) (σ' := [.buf 1 (L cU8 l_2171) false]) ⟨_, orcs_nil, ?_⟩ ?_
  · subst hz_2195; simp only [go_sem, reduceIte, Nat.reduceLT, Nat.reduceEqDiff, Nat.reduceAdd]
  replace h := bind_some1 h; obtain ⟨j_2217, hA_2218, hj_2219⟩ := h
  refine run_join (fun (v : List UInt8) => (⟨asFr 38 [(3, .bs false 0 (v.length) 0 (v.length))], [.buf 1 (L cU8 v) false]⟩ : St)) (fun v => v = j_2217) ?_ ?_
  · have h := hA_2218; clear hA_2218
    refine run_textE hE [3, 4, 5] (fr' := [(3, .bs false 0 (l_2171.length) 0 (l_2171.length)), (4, u64 n_2194), (5, i64 0)]) (σ' := [.buf 1 (L cU8 l_2171) false]) ⟨_, orcs_nil, ?_⟩ ?_
    · simp only [go_sem, reduceIte, Nat.reduceLT, Nat.reduceEqDiff, Nat.reduceAdd]
    refine run_block ?_
    replace h := bind_some1 h; obtain ⟨x_2231, hx_2232, hj_2233⟩ := h
    refine run_loopO hx_2232 (fun (v : Int × List UInt8) => (⟨asFr 38 [(3, .bs false 0 (v.2.length) 0 (v.2.length)), (4, u64 n_2194), (5, i64 v.1)], [.buf 1 (L cU8 v.2) false]⟩ : St)) (weak_sel [0] (by decide) rfl (by simp only [go_sem, reduceIte, Nat.reduceLT, Nat.reduceEqDiff, Nat.reduceAdd]) (by simp only [go_sem, reduceIte, Nat.reduceLT, Nat.reduceEqDiff, Nat.reduceAdd])) ?_
    rintro ⟨i_2224, l_2225⟩ o_2234 h hxx_2235
    replace h : r02_padded_b2 n_2194 i_2224 l_2225 = some o_2234 := h
    unfold r02_padded_b2 at h
    refine run_seq ?_
    refine run_textE hE [3, 4, 5, 25] (fr' := [(3, .bs false 0 (l_2225.length) 0 (l_2225.length)), (4, u64 n_2194), (5, i64 i_2224), (25, .bool ((decide (i_2224 < 8))))]) (σ' := [.buf 1 (L cU8 l_2225) false]) ⟨_, orcs_nil, ?_⟩ ?_
    · simp only [go_sem, reduceIte, Nat.reduceLT, Nat.reduceEqDiff, Nat.reduceAdd]
    refine run_condL (b := (decide (i_2224 < 8))) rfl (by decide) (fun hb => ?_) (fun hb => ?_)
    · replace h := ite_t h hb
      refine run_skip ?_
      refine thenK_n ?_
      refine run_seq ?_
      refine run_block ?_
      replace h := chk_some h; obtain ⟨hc_2236, h⟩ := h
      replace h := chk_some h; obtain ⟨hc_2237, h⟩ := h
      replace h := lt1_some h; obtain ⟨l_2238, hz_2239, h⟩ := h
      refine run_textE0 hE (wk_block wk_then) [3, 4, 5] (fr' := [(3, .bs false 0 (l_2238.length) 0 (l_2238.length)), (4, u64 n_2194), (5, i64 i_2224)]) (σ' := [.buf 1 (L cU8 l_2238) false, .buf 1 (L cU8 (([((shr64 n_2194 (((w64 (56 - (w64 (8 * i_2224))))).toNat))).toUInt8] : List UInt8))) false]) ⟨_, orcs_nil, ?_⟩ ?_
      · subst hz_2239; simp only [go_sem, reduceIte, Nat.reduceLT, Nat.reduceEqDiff, Nat.reduceAdd, Nat.reduceBEq, Nat.reduceMul, Nat.reduceSub, Nat.reduceGT, Nat.reducePow, Nat.reduceLeDiff, Int.reduceToNat, hc_2236, hc_2237]
      refine blockK_n ?_
      refine thenK_n ?_
      refine run_textE0 hE wk_lp [3, 4, 5] (fr' := [(3, .bs false 0 (l_2238.length) 0 (l_2238.length)), (4, u64 n_2194), (5, i64 ((w64 (i_2224 + 1))))]) (σ' := [.buf 1 (L cU8 l_2238) false, .buf 1 (L cU8 (([((shr64 n_2194 (((w64 (56 - (w64 (8 * i_2224))))).toNat))).toUInt8] : List UInt8))) false]) ⟨_, orcs_nil, ?_⟩ ?_
      · simp only [go_sem, reduceIte, Nat.reduceLT, Nat.reduceEqDiff, Nat.reduceAdd]
      obtain rfl := Option.some.inj h
      exact lpK_n (((w64 (i_2224 + 1)), l_2238)) rfl (weak_sel [0] (by decide) rfl (by simp only [go_sem, reduceIte, Nat.reduceLT, Nat.reduceEqDiff, Nat.reduceAdd]) (by simp only [go_sem, reduceIte, Nat.reduceLT, Nat.reduceEqDiff, Nat.reduceAdd]))
    · replace h := ite_f h hb
      refine run_exit ?_
      refine thenK_x ?_
      obtain rfl := Option.some.inj h
      have ex_x_2231 := hxx_2235 _ rfl
      subst ex_x_2231
      have h := hj_2233; clear hj_2233
      refine lpK_x ?_
      refine blockK_x ?_
      obtain rfl := Option.some.inj h
      exact joinK_n l_2225 rfl ((weak_sel (l' := [(3, .bs false 0 (l_2225.length) 0 (l_2225.length))]) (σ' := [.buf 1 (L cU8 l_2225) false]) [0] (by decide) rfl (by simp only [go_sem, reduceIte, Nat.reduceLT, Nat.reduceEqDiff, Nat.reduceAdd]) (by simp only [go_sem, reduceIte, Nat.reduceLT, Nat.reduceEqDiff, Nat.reduceAdd])).trans (weak_sel [0] (by decide) rfl (by simp only [go_sem, reduceIte, Nat.reduceLT, Nat.reduceEqDiff, Nat.reduceAdd]) (by simp only [go_sem, reduceIte, Nat.reduceLT, Nat.reduceEqDiff, Nat.reduceAdd])))
  rintro l_2216 rfl
  have h := hj_2219; clear hj_2219
  refine run_textE hE [2] (fr' := [(2, .bs false 0 (l_2216.length) 0 (l_2216.length))]) (σ' := [.buf 1 (L cU8 l_2216) false]) ⟨_, orcs_nil, ?_⟩ ?_
  · simp only [go_sem, reduceIte, Nat.reduceLT, Nat.reduceEqDiff, Nat.reduceAdd]
  refine run_ret ?_
  obtain rfl := Option.some.inj h
  refine ret_ok (.inr rfl) ?_
  simp only [go_sem, reduceIte, Nat.reduceLT, Nat.reduceEqDiff, Nat.reduceAdd]

end Go.Proofs.YtgdiabbgiiemcaaDoor
/-
  The functions compute just that.
-/
namespace Go.Proofs.YtgdiabbgiiemcaaDoor
open Go.Rv
set_option linter.unusedVariables false
set_option linter.unusedSimpArgs false
set_option maxRecDepth 20000

theorem digest_block_con {h_1647 : Arr UInt32 8} {b_1648 : List UInt8} {r : Arr UInt32 8} (h : digest_block h_1647 b_1648 = some r) : Con B 36 [.agg (C1 u32 h_1647.l), .sl false (L cU8 b_1648)] [] (fun r' σ' => r' = .agg (C1 u32 r.l) ∧ σ' = []) := by
  refine con_walk (N := 195) (rs := [.cell 4 56]) ok Tryd.func36 rfl (by decide +kernel) rfl rfl (Nat.le_of_ble_eq_true rfl) (fun F => ?_)
  have hE := ok.env F
  unfold digest_block at h
  show Run (B.env F) 0 _ ⟨asFr 195 [(0, .agg (C1 u32 h_1647.l)), (1, .sl false (L cU8 b_1648))], []⟩ _
  refine run_textE hE [1, 2, 4] (fr' := [(1, .sl false (L cU8 b_1648)), (2, .ref 0 0), (4, .ref 1 0)]) (σ' := [.box (C1 u32 h_1647.l) false, .box (C1 u32 ((Arr.rep 8 (0 : UInt32))).l) false]) ⟨_, orcs_nil, ?_⟩ ?_
  · simp only [go_sem, reduceIte, Nat.reduceLT, Nat.reduceEqDiff, Nat.reduceAdd]
  refine run_textE hE [1, 2, 4, 5] (fr' := [(1, .sl false (L cU8 b_1648)), (2, .ref 0 0), (4, .ref 1 0), (5, .ref 2 0)]) (σ' := [.box (C1 u32 h_1647.l) false, .box (C1 u32 ((Arr.rep 8 (0 : UInt32))).l) false, .box (C1 u32 ((Arr.rep 64 (0 : UInt32))).l) false]) ⟨_, orcs_nil, ?_⟩ ?_
  · simp only [go_sem, reduceIte, Nat.reduceLT, Nat.reduceEqDiff, Nat.reduceAdd]
  replace h := bind_some1 h; obtain ⟨j_1679, hA_1680, hj_1681⟩ := h
  refine run_join (fun (v : Arr UInt32 64) => (⟨asFr 195 [(2, .ref 0 0), (4, .ref 1 0), (5, .ref 2 0)], [.box (C1 u32 h_1647.l) false, .box (C1 u32 ((Arr.rep 8 (0 : UInt32))).l) false, .box (C1 u32 v.l) false]⟩ : St)) (fun v => v = j_1679) ?_ ?_
  · have h := hA_1680; clear hA_1680
    refine run_textE hE [1, 2, 4, 5, 19] (fr' := [(1, .sl false (L cU8 b_1648)), (2, .ref 0 0), (4, .ref 1 0), (5, .ref 2 0), (19, i64 0)]) (σ' := [.box (C1 u32 h_1647.l) false, .box (C1 u32 ((Arr.rep 8 (0 : UInt32))).l) false, .box (C1 u32 ((Arr.rep 64 (0 : UInt32))).l) false]) ⟨_, orcs_nil, ?_⟩ ?_
    · simp only [go_sem, reduceIte, Nat.reduceLT, Nat.reduceEqDiff, Nat.reduceAdd]
    refine run_block ?_
    replace h := bind_some1 h; obtain ⟨x_1699, hx_1700, hj_1701⟩ := h
    refine run_loopO hx_1700 (fun (v : Int × Arr UInt32 64) => (⟨asFr 195 [(1, .sl false (L cU8 b_1648)), (2, .ref 0 0), (4, .ref 1 0), (5, .ref 2 0), (19, i64 v.1)], [.box (C1 u32 h_1647.l) false, .box (C1 u32 ((Arr.rep 8 (0 : UInt32))).l) false, .box (C1 u32 v.2.l) false]⟩ : St)) (weak_sel [0, 1, 2] (by decide) rfl (by simp only [go_sem, reduceIte, Nat.reduceLT, Nat.reduceEqDiff, Nat.reduceAdd]) (by simp only [go_sem, reduceIte, Nat.reduceLT, Nat.reduceEqDiff, Nat.reduceAdd])) ?_
    rintro ⟨t_1689, f_1690⟩ o_1702 h hxx_1703
    replace h : digest_block_b1 b_1648 t_1689 f_1690 = some o_1702 := h
    unfold digest_block_b1 at h
    refine run_textE hE [1, 2, 4, 5, 19, 20] (fr' := [(1, .sl false (L cU8 b_1648)), (2, .ref 0 0), (4, .ref 1 0), (5, .ref 2 0), (19, i64 t_1689), (20, .bool ((decide (t_1689 < 16))))]) (σ' := [.box (C1 u32 h_1647.l) false, .box (C1 u32 ((Arr.rep 8 (0 : UInt32))).l) false, .box (C1 u32 f_1690.l) false]) ⟨_, orcs_nil, ?_⟩ ?_
    · simp only [go_sem, reduceIte, Nat.reduceLT, Nat.reduceEqDiff, Nat.reduceAdd]
    refine run_seq ?_
    refine run_condL (b := (decide (t_1689 < 16))) rfl (by decide) (fun hb => ?_) (fun hb => ?_)
    · replace h := ite_t h hb
      refine run_skip ?_
      refine thenK_n ?_
      refine run_seq ?_
      refine run_block ?_
      refine run_textE hE [1, 2, 4, 5, 6, 19] (fr' := [(1, .sl false (L cU8 b_1648)), (2, .ref 0 0), (4, .ref 1 0), (5, .ref 2 0), (6, i64 t_1689), (19, i64 t_1689)]) (σ' := [.box (C1 u32 h_1647.l) false, .box (C1 u32 ((Arr.rep 8 (0 : UInt32))).l) false, .box (C1 u32 f_1690.l) false]) ⟨_, orcs_nil, ?_⟩ ?_
      · simp only [go_sem, reduceIte, Nat.reduceLT, Nat.reduceEqDiff, Nat.reduceAdd]
      replace h := chk_some h; obtain ⟨hc_1704, h⟩ := h
      replace h := chk_some h; obtain ⟨hc_1705, h⟩ := h
      replace h := chk_some h; obtain ⟨hc_1706, h⟩ := h
      replace h := chk_some h; obtain ⟨hc_1707, h⟩ := h
      replace h := chk_some h; obtain ⟨hc_1708, h⟩ := h
      replace h := lt1_some h; obtain ⟨f_1709, hz_1710, h⟩ := h
      refine run_drawE0 hE mixed [[], [], [], [2], [1, 2, 3], [1, 2, 3, 4], [1, 2, 3, 4, 5], [1, 2, 3, 4, 5, 6], [], [], [9], [9, 10], [8, 9, 10, 11], [8, 9, 10, 11, 12], [8, 9, 10, 11, 12, 13], [8, 9, 10, 11, 12, 13, 14], [1, 2, 3, 4, 5, 6, 7, 8, 9, 10, 11, 12, 13, 14, 15], [], [], [18], [18, 19], [17, 18, 19, 20], [17, 18, 19, 20, 21], [17, 18, 19, 20, 21, 22], [17, 18, 19, 20, 21, 22, 23], [1, 2, 3, 4, 5, 6, 7, 8, 9, 10, 11, 12, 13, 14, 15, 16, 17, 18, 19, 20, 21, 22, 23, 24], [], [], [27], [27, 28], [26, 27, 28, 29], [26, 27, 28, 29, 30], [26, 27, 28, 29, 30, 31], [1, 2, 3, 4, 5, 6, 7, 8, 9, 10, 11, 12, 13, 14, 15, 16, 17, 18, 19, 20, 21, 22, 23, 24, 25, 26, 27, 28, 29, 30, 31, 32], [0, 1, 2, 3, 4, 5, 6, 7, 8, 9, 10, 11, 12, 13, 14, 15, 16, 17, 18, 19, 20, 21, 22, 23, 24, 25, 26, 27, 28, 29, 30, 31, 32, 33], [0, 1, 2, 3, 4, 5, 6, 7, 8, 9, 10, 11, 12, 13, 14, 15, 16, 17, 18, 19, 20, 21, 22, 23, 24, 25, 26, 27, 28, 29, 30, 31, 32, 33, 34]] (by kernel_rfl) (by kernel_rfl) (wk_block wk_then) [1, 2, 4, 5, 19] (fr' := [(1, .sl false (L cU8 b_1648)), (2, .ref 0 0), (4, .ref 1 0), (5, .ref 2 0), (19, i64 t_1689)]) (σ' := [.box (C1 u32 h_1647.l) false, .box (C1 u32 ((Arr.rep 8 (0 : UInt32))).l) false, .box (C1 u32 f_1709.l) false]) ⟨_, orcs_nil, ?_⟩ ?_
      · subst hz_1710; simp only [go_sem, reduceIte, Nat.reduceLT, Nat.reduceEqDiff, Nat.reduceAdd, Int.reduceToNat, Nat.reduceLeDiff, hc_1704, hc_1704.2, lt_le hc_1704.2, hc_1705, hc_1705.2, lt_le hc_1705.2, hc_1706, hc_1706.2, lt_le hc_1706.2, hc_1707, hc_1707.2, lt_le hc_1707.2, hc_1708, hc_1708.2, lt_le hc_1708.2]
      refine blockK_n ?_
      refine thenK_n ?_
      refine run_textE0 hE wk_lp [1, 2, 4, 5, 19] (fr' := [(1, .sl false (L cU8 b_1648)), (2, .ref 0 0), (4, .ref 1 0), (5, .ref 2 0), (19, i64 ((w64 (t_1689 + 1))))]) (σ' := [.box (C1 u32 h_1647.l) false, .box (C1 u32 ((Arr.rep 8 (0 : UInt32))).l) false, .box (C1 u32 f_1709.l) false]) ⟨_, orcs_nil, ?_⟩ ?_
      · simp only [go_sem, reduceIte, Nat.reduceLT, Nat.reduceEqDiff, Nat.reduceAdd]
      obtain rfl := Option.some.inj h
      exact lpK_n (((w64 (t_1689 + 1)), f_1709)) rfl (weak_sel [0, 1, 2] (by decide) rfl (by simp only [go_sem, reduceIte, Nat.reduceLT, Nat.reduceEqDiff, Nat.reduceAdd]) (by simp only [go_sem, reduceIte, Nat.reduceLT, Nat.reduceEqDiff, Nat.reduceAdd]))
    · replace h := ite_f h hb
      refine run_exit ?_
      refine thenK_x ?_
      obtain rfl := Option.some.inj h
      have ex_x_1699 := hxx_1703 _ rfl
      subst ex_x_1699
      have h := hj_1701; clear hj_1701
      refine lpK_x ?_
      refine blockK_x ?_
      obtain rfl := Option.some.inj h
      exact joinK_n f_1690 rfl ((weak_sel (l' := [(2, .ref 0 0), (4, .ref 1 0), (5, .ref 2 0)]) (σ' := [.box (C1 u32 h_1647.l) false, .box (C1 u32 ((Arr.rep 8 (0 : UInt32))).l) false, .box (C1 u32 f_1690.l) false]) [0, 1, 2] (by decide) rfl (by simp only [go_sem, reduceIte, Nat.reduceLT, Nat.reduceEqDiff, Nat.reduceAdd]) (by simp only [go_sem, reduceIte, Nat.reduceLT, Nat.reduceEqDiff, Nat.reduceAdd])).trans (weak_sel [0, 1, 2] (by decide) rfl (by simp only [go_sem, reduceIte, Nat.reduceLT, Nat.reduceEqDiff, Nat.reduceAdd]) (by simp only [go_sem, reduceIte, Nat.reduceLT, Nat.reduceEqDiff, Nat.reduceAdd])))
  rintro f_1678 rfl
  have h := hj_1681; clear hj_1681
  replace h := bind_some1 h; obtain ⟨j_1789, hA_1790, hj_1791⟩ := h
  refine run_join (fun (v : Arr UInt32 64) => (⟨asFr 195 [(2, .ref 0 0), (4, .ref 1 0), (5, .ref 2 0)], [.box (C1 u32 h_1647.l) false, .box (C1 u32 ((Arr.rep 8 (0 : UInt32))).l) false, .box (C1 u32 v.l) false]⟩ : St)) (fun v => v = j_1789) ?_ ?_
  · have h := hA_1790; clear hA_1790
    refine run_textE hE [2, 4, 5, 7] (fr' := [(2, .ref 0 0), (4, .ref 1 0), (5, .ref 2 0), (7, i64 16)]) (σ' := [.box (C1 u32 h_1647.l) false, .box (C1 u32 ((Arr.rep 8 (0 : UInt32))).l) false, .box (C1 u32 f_1678.l) false]) ⟨_, orcs_nil, ?_⟩ ?_
    · simp only [go_sem, reduceIte, Nat.reduceLT, Nat.reduceEqDiff, Nat.reduceAdd]
    refine run_block ?_
    replace h := bind_some1 h; obtain ⟨x_1841, hx_1842, hj_1843⟩ := h
    refine run_loopO hx_1842 (fun (v : Int × Arr UInt32 64) => (⟨asFr 195 [(2, .ref 0 0), (4, .ref 1 0), (5, .ref 2 0), (7, i64 v.1)], [.box (C1 u32 h_1647.l) false, .box (C1 u32 ((Arr.rep 8 (0 : UInt32))).l) false, .box (C1 u32 v.2.l) false]⟩ : St)) (weak_sel [0, 1, 2] (by decide) rfl (by simp only [go_sem, reduceIte, Nat.reduceLT, Nat.reduceEqDiff, Nat.reduceAdd]) (by simp only [go_sem, reduceIte, Nat.reduceLT, Nat.reduceEqDiff, Nat.reduceAdd])) ?_
    rintro ⟨i_1815, f_1816⟩ o_1844 h hxx_1845
    replace h : digest_block_b2 i_1815 f_1816 = some o_1844 := h
    unfold digest_block_b2 at h
    refine run_seq ?_
    refine run_textE hE [2, 4, 5, 7, 59] (fr' := [(2, .ref 0 0), (4, .ref 1 0), (5, .ref 2 0), (7, i64 i_1815), (59, .bool ((decide (i_1815 < 64))))]) (σ' := [.box (C1 u32 h_1647.l) false, .box (C1 u32 ((Arr.rep 8 (0 : UInt32))).l) false, .box (C1 u32 f_1816.l) false]) ⟨_, orcs_nil, ?_⟩ ?_
    · simp only [go_sem, reduceIte, Nat.reduceLT, Nat.reduceEqDiff, Nat.reduceAdd]
    refine run_condL (b := (decide (i_1815 < 64))) rfl (by decide) (fun hb => ?_) (fun hb => ?_)
    · replace h := ite_t h hb
      refine run_skip ?_
      refine thenK_n ?_
      refine run_seq ?_
      refine run_block ?_
      replace h := chk_some h; obtain ⟨hc_1846, h⟩ := h
      replace h := chk_some h; obtain ⟨hc_1847, h⟩ := h
      replace h := lt1_some h; obtain ⟨x_1848, hz_1850, h⟩ := h
      replace h := lt1_some h; obtain ⟨y_1849, hz_1851, h⟩ := h
      refine run_drawE hE mixed [[], [0], [0, 1], [0, 1, 2], [], [4], [4, 5], [4, 5, 6], [0, 1, 2, 3], [0, 1, 2, 3, 4, 5, 6, 7, 8]] (by kernel_rfl) (by kernel_rfl) [2, 4, 5, 7, 8, 9] (fr' := [(2, .ref 0 0), (4, .ref 1 0), (5, .ref 2 0), (7, i64 i_1815), (8, u32 x_1848), (9, u32 y_1849)]) (σ' := [.box (C1 u32 h_1647.l) false, .box (C1 u32 ((Arr.rep 8 (0 : UInt32))).l) false, .box (C1 u32 f_1816.l) false]) ⟨_, orcs_nil, ?_⟩ ?_
      · subst hz_1851; subst hz_1850; simp only [go_sem, reduceIte, Nat.reduceLT, Nat.reduceEqDiff, Nat.reduceAdd, Int.reduceToNat, hc_1846, hc_1846.2, lt_le hc_1846.2, hc_1847, hc_1847.2, lt_le hc_1847.2]
      replace h := bind_some1 h; obtain ⟨y_1852, hy_1854, h⟩ := h
      replace h := bind_some1 h; obtain ⟨y_1853, hy_1855, h⟩ := h
      replace h := lt1_some h; obtain ⟨s0_1856, hz_1857, h⟩ := h
      refine run_textE hE [2, 4, 5, 7, 9, 10] (fr' := [(2, .ref 0 0), (4, .ref 1 0), (5, .ref 2 0), (7, i64 i_1815), (9, u32 y_1849), (10, u32 s0_1856)]) (σ' := [.box (C1 u32 h_1647.l) false, .box (C1 u32 ((Arr.rep 8 (0 : UInt32))).l) false, .box (C1 u32 f_1816.l) false]) ⟨_, orcs_ok (l := [(71, 43, [u32 x_1848, i64 ((-7))], u32 y_1852), (73, 43, [u32 x_1848, i64 ((-18))], u32 y_1853)]) ⟨bits_RotateLeft32_con  hy_1854, bits_RotateLeft32_con  hy_1855, trivial⟩, ?_⟩ ?_
      · subst hz_1857; simp only [go_sem, reduceIte, Nat.reduceLT, Nat.reduceEqDiff, Nat.reduceAdd]
      replace h := bind_some1 h; obtain ⟨y_1858, hy_1860, h⟩ := h
      replace h := bind_some1 h; obtain ⟨y_1859, hy_1861, h⟩ := h
      replace h := lt1_some h; obtain ⟨s1_1862, hz_1863, h⟩ := h
      refine run_textE hE [2, 4, 5, 7, 10, 11] (fr' := [(2, .ref 0 0), (4, .ref 1 0), (5, .ref 2 0), (7, i64 i_1815), (10, u32 s0_1856), (11, u32 s1_1862)]) (σ' := [.box (C1 u32 h_1647.l) false, .box (C1 u32 ((Arr.rep 8 (0 : UInt32))).l) false, .box (C1 u32 f_1816.l) false]) ⟨_, orcs_ok (l := [(79, 43, [u32 y_1849, i64 ((-17))], u32 y_1858), (81, 43, [u32 y_1849, i64 ((-19))], u32 y_1859)]) ⟨bits_RotateLeft32_con  hy_1860, bits_RotateLeft32_con  hy_1861, trivial⟩, ?_⟩ ?_
      · subst hz_1863; simp only [go_sem, reduceIte, Nat.reduceLT, Nat.reduceEqDiff, Nat.reduceAdd]
      replace h := chk_some h; obtain ⟨hc_1864, h⟩ := h
      replace h := chk_some h; obtain ⟨hc_1865, h⟩ := h
      replace h := chk_some h; obtain ⟨hc_1866, h⟩ := h
      replace h := lt1_some h; obtain ⟨f_1867, hz_1868, h⟩ := h
      refine run_drawE0 hE mixed [[], [], [1], [1, 2], [1, 2, 3], [], [1, 2, 3, 4, 5], [], [7], [7, 8], [7, 8, 9], [1, 2, 3, 4, 5, 6, 7, 8, 9, 10], [], [1, 2, 3, 4, 5, 6, 7, 8, 9, 10, 11, 12], [0, 1, 2, 3, 4, 5, 6, 7, 8, 9, 10, 11, 12, 13], [0, 1, 2, 3, 4, 5, 6, 7, 8, 9, 10, 11, 12, 13, 14]] (by kernel_rfl) (by kernel_rfl) (wk_block wk_then) [2, 4, 5, 7] (fr' := [(2, .ref 0 0), (4, .ref 1 0), (5, .ref 2 0), (7, i64 i_1815)]) (σ' := [.box (C1 u32 h_1647.l) false, .box (C1 u32 ((Arr.rep 8 (0 : UInt32))).l) false, .box (C1 u32 f_1867.l) false]) ⟨_, orcs_nil, ?_⟩ ?_
      · subst hz_1868; simp only [go_sem, reduceIte, Nat.reduceLT, Nat.reduceEqDiff, Nat.reduceAdd, Int.reduceToNat, Nat.reduceLeDiff, hc_1864, hc_1864.2, lt_le hc_1864.2, hc_1865, hc_1865.2, lt_le hc_1865.2, hc_1866, hc_1866.2, lt_le hc_1866.2]
      refine blockK_n ?_
      refine thenK_n ?_
      refine run_textE0 hE wk_lp [2, 4, 5, 7] (fr' := [(2, .ref 0 0), (4, .ref 1 0), (5, .ref 2 0), (7, i64 ((w64 (i_1815 + 1))))]) (σ' := [.box (C1 u32 h_1647.l) false, .box (C1 u32 ((Arr.rep 8 (0 : UInt32))).l) false, .box (C1 u32 f_1867.l) false]) ⟨_, orcs_nil, ?_⟩ ?_
      · simp only [go_sem, reduceIte, Nat.reduceLT, Nat.reduceEqDiff, Nat.reduceAdd]
      obtain rfl := Option.some.inj h
      exact lpK_n (((w64 (i_1815 + 1)), f_1867)) rfl (weak_sel [0, 1, 2] (by decide) rfl (by simp only [go_sem, reduceIte, Nat.reduceLT, Nat.reduceEqDiff, Nat.reduceAdd]) (by simp only [go_sem, reduceIte, Nat.reduceLT, Nat.reduceEqDiff, Nat.reduceAdd]))
    · replace h := ite_f h hb
      refine run_exit ?_
      refine thenK_x ?_
      obtain rfl := Option.some.inj h
      have ex_x_1841 := hxx_1845 _ rfl
      subst ex_x_1841
      have h := hj_1843; clear hj_1843
      refine lpK_x ?_
      refine blockK_x ?_
      obtain rfl := Option.some.inj h
      exact joinK_n f_1816 rfl ((weak_sel (l' := [(2, .ref 0 0), (4, .ref 1 0), (5, .ref 2 0)]) (σ' := [.box (C1 u32 h_1647.l) false, .box (C1 u32 ((Arr.rep 8 (0 : UInt32))).l) false, .box (C1 u32 f_1816.l) false]) [0, 1, 2] (by decide) rfl (by simp only [go_sem, reduceIte, Nat.reduceLT, Nat.reduceEqDiff, Nat.reduceAdd]) (by simp only [go_sem, reduceIte, Nat.reduceLT, Nat.reduceEqDiff, Nat.reduceAdd])).trans (weak_sel [0, 1, 2] (by decide) rfl (by simp only [go_sem, reduceIte, Nat.reduceLT, Nat.reduceEqDiff, Nat.reduceAdd]) (by simp only [go_sem, reduceIte, Nat.reduceLT, Nat.reduceEqDiff, Nat.reduceAdd])))
  rintro f_1788 rfl
  have h := hj_1791; clear hj_1791
  refine run_textE hE [2, 4, 5, 12] (fr' := [(2, .ref 0 0), (4, .ref 1 0), (5, .ref 2 0), (12, .ref 3 0)]) (σ' := [.box (C1 u32 h_1647.l) false, .box (C1 u32 ((Arr.rep 8 (0 : UInt32))).l) false, .box (C1 u32 f_1788.l) false, .box (C1 u32 h_1647.l) false]) ⟨_, orcs_nil, ?_⟩ ?_
  · simp only [go_sem, reduceIte, Nat.reduceLT, Nat.reduceEqDiff, Nat.reduceAdd]
  replace h := bind_some1 h; obtain ⟨j_1980, hA_1981, hj_1982⟩ := h
  refine run_join (fun (v : Arr UInt32 8) => (⟨asFr 195 [(2, .ref 0 0), (4, .ref 1 0), (12, .ref 2 0)], [.box (C1 u32 h_1647.l) false, .box (C1 u32 ((Arr.rep 8 (0 : UInt32))).l) false, .box (C1 u32 v.l) false]⟩ : St)) (fun v => v = j_1980) ?_ ?_
  · have h := hA_1981; clear hA_1981
    refine run_textE hE [2, 4, 5, 12, 102] (fr' := [(2, .ref 0 0), (4, .ref 1 0), (5, .ref 2 0), (12, .ref 3 0), (102, i64 0)]) (σ' := [.box (C1 u32 h_1647.l) false, .box (C1 u32 ((Arr.rep 8 (0 : UInt32))).l) false, .box (C1 u32 f_1788.l) false, .box (C1 u32 h_1647.l) false]) ⟨_, orcs_nil, ?_⟩ ?_
    · simp only [go_sem, reduceIte, Nat.reduceLT, Nat.reduceEqDiff, Nat.reduceAdd]
    refine run_block ?_
    replace h := bind_some1 h; obtain ⟨x_2054, hx_2055, hj_2056⟩ := h
    refine run_loopO hx_2055 (fun (v : Int × Arr UInt32 8) => (⟨asFr 195 [(2, .ref 0 0), (4, .ref 1 0), (5, .ref 2 0), (12, .ref 3 0), (102, i64 v.1)], [.box (C1 u32 h_1647.l) false, .box (C1 u32 ((Arr.rep 8 (0 : UInt32))).l) false, .box (C1 u32 f_1788.l) false, .box (C1 u32 v.2.l) false]⟩ : St)) (weak_sel [0, 1, 2, 3] (by decide) rfl (by simp only [go_sem, reduceIte, Nat.reduceLT, Nat.reduceEqDiff, Nat.reduceAdd]) (by simp only [go_sem, reduceIte, Nat.reduceLT, Nat.reduceEqDiff, Nat.reduceAdd])) ?_
    rintro ⟨t_2017, f_2018⟩ o_2057 h hxx_2058
    replace h : digest_block_b3 f_1788 t_2017 f_2018 = some o_2057 := h
    unfold digest_block_b3 at h
    refine run_textE hE [2, 4, 5, 12, 102, 103] (fr' := [(2, .ref 0 0), (4, .ref 1 0), (5, .ref 2 0), (12, .ref 3 0), (102, i64 t_2017), (103, .bool ((decide (t_2017 < 64))))]) (σ' := [.box (C1 u32 h_1647.l) false, .box (C1 u32 ((Arr.rep 8 (0 : UInt32))).l) false, .box (C1 u32 f_1788.l) false, .box (C1 u32 f_2018.l) false]) ⟨_, orcs_nil, ?_⟩ ?_
    · simp only [go_sem, reduceIte, Nat.reduceLT, Nat.reduceEqDiff, Nat.reduceAdd]
    refine run_seq ?_
    refine run_condL (b := (decide (t_2017 < 64))) rfl (by decide) (fun hb => ?_) (fun hb => ?_)
    · replace h := ite_t h hb
      refine run_skip ?_
      refine thenK_n ?_
      refine run_seq ?_
      refine run_block ?_
      refine run_textE hE [2, 4, 5, 12, 13, 102] (fr' := [(2, .ref 0 0), (4, .ref 1 0), (5, .ref 2 0), (12, .ref 3 0), (13, i64 t_2017), (102, i64 t_2017)]) (σ' := [.box (C1 u32 h_1647.l) false, .box (C1 u32 ((Arr.rep 8 (0 : UInt32))).l) false, .box (C1 u32 f_1788.l) false, .box (C1 u32 f_2018.l) false]) ⟨_, orcs_nil, ?_⟩ ?_
      · simp only [go_sem, reduceIte, Nat.reduceLT, Nat.reduceEqDiff, Nat.reduceAdd]
      have hk_2059 : InR 0 8 := by decide
      have hk_2060 : InR 4 8 := by decide
      refine run_drawE hE mixed [[], [0], [], [2], [0, 1], [0, 1, 2, 3, 4]] (by kernel_rfl) (by kernel_rfl) [2, 4, 5, 12, 13, 14, 15, 102] (fr' := [(2, .ref 0 0), (4, .ref 1 0), (5, .ref 2 0), (12, .ref 3 0), (13, i64 t_2017), (14, u32 ((f_2018.get 0))), (15, u32 ((f_2018.get 4))), (102, i64 t_2017)]) (σ' := [.box (C1 u32 h_1647.l) false, .box (C1 u32 ((Arr.rep 8 (0 : UInt32))).l) false, .box (C1 u32 f_1788.l) false, .box (C1 u32 f_2018.l) false]) ⟨_, orcs_nil, ?_⟩ ?_
      · simp only [go_sem, reduceIte, Nat.reduceLT, Nat.reduceEqDiff, Nat.reduceAdd, Int.reduceToNat, hk_2059, hk_2059.2, hk_2060, hk_2060.2]
      have hk_2064 : InR 7 8 := by decide
      replace h := bind_some1 h; obtain ⟨y_2061, hy_2065, h⟩ := h
      replace h := bind_some1 h; obtain ⟨y_2062, hy_2066, h⟩ := h
      replace h := bind_some1 h; obtain ⟨y_2063, hy_2067, h⟩ := h
      have hk_2068 : InR 5 8 := by decide
      have hk_2069 : InR 6 8 := by decide
      replace h := chk_some h; obtain ⟨hc_2070, h⟩ := h
      replace h := chk_some h; obtain ⟨hc_2071, h⟩ := h
      replace h := lt1_some h; obtain ⟨t_2072, hz_2073, h⟩ := h
      refine run_drawE hE mixed [[], [0], [], [2], [], [2, 3, 4], [2, 3, 4, 5], [], [2, 3, 4, 5, 7], [2, 3, 4, 5, 6, 7, 8], [0, 1, 2, 3, 4, 5, 6, 7, 8, 9], [], [], [12], [11, 12, 13], [], [15], [], [17], [15, 16, 17, 18], [11, 12, 13, 14, 15, 16, 17, 18, 19], [0, 1, 2, 3, 4, 5, 6, 7, 8, 9, 10, 11, 12, 13, 14, 15, 16, 17, 18, 19, 20], [], [22], [22, 23], [0, 1, 2, 3, 4, 5, 6, 7, 8, 9, 10, 11, 12, 13, 14, 15, 16, 17, 18, 19, 20, 21, 22, 23, 24], [], [26], [26, 27], [0, 1, 2, 3, 4, 5, 6, 7, 8, 9, 10, 11, 12, 13, 14, 15, 16, 17, 18, 19, 20, 21, 22, 23, 24, 25, 26, 27, 28], [0, 1, 2, 3, 4, 5, 6, 7, 8, 9, 10, 11, 12, 13, 14, 15, 16, 17, 18, 19, 20, 21, 22, 23, 24, 25, 26, 27, 28, 29]] (by kernel_rfl) (by kernel_rfl) [2, 4, 5, 12, 14, 15, 16, 102] (fr' := [(2, .ref 0 0), (4, .ref 1 0), (5, .ref 2 0), (12, .ref 3 0), (14, u32 ((f_2018.get 0))), (15, u32 ((f_2018.get 4))), (16, u32 t_2072), (102, i64 t_2017)]) (σ' := [.box (C1 u32 h_1647.l) false, .box (C1 u32 ((Arr.rep 8 (0 : UInt32))).l) false, .box (C1 u32 f_1788.l) false, .box (C1 u32 f_2018.l) false]) ⟨_, orcs_ok (l := [(112, 43, [u32 ((f_2018.get 4)), i64 ((-6))], u32 y_2061), (114, 43, [u32 ((f_2018.get 4)), i64 ((-11))], u32 y_2062), (117, 43, [u32 ((f_2018.get 4)), i64 ((-25))], u32 y_2063)]) ⟨bits_RotateLeft32_con  hy_2065, bits_RotateLeft32_con  hy_2066, bits_RotateLeft32_con  hy_2067, trivial⟩, ?_⟩ ?_
      · subst hz_2073; simp only [go_sem, reduceIte, Nat.reduceLT, Nat.reduceEqDiff, Nat.reduceAdd, Int.reduceToNat, hk_2064, hk_2064.2, hk_2068, hk_2068.2, hk_2069, hk_2069.2, hc_2070, hc_2070.2, lt_le hc_2070.2, hc_2071, hc_2071.2, lt_le hc_2071.2]
      replace h := bind_some1 h; obtain ⟨y_2074, hy_2077, h⟩ := h
      replace h := bind_some1 h; obtain ⟨y_2075, hy_2078, h⟩ := h
      replace h := bind_some1 h; obtain ⟨y_2076, hy_2079, h⟩ := h
      have hk_2080 : InR 1 8 := by decide
      have hk_2081 : InR 2 8 := by decide
      have hk_2082 : InR 1 8 := by decide
      have hk_2083 : InR 2 8 := by decide
      replace h := lt1_some h; obtain ⟨u_2084, hz_2085, h⟩ := h
      refine run_drawE hE mixed [[], [0], [], [0, 1, 2], [0, 1, 2, 3], [], [0, 1, 2, 3, 5], [0, 1, 2, 3, 4, 5, 6], [], [], [9], [8, 9, 10], [], [], [13], [12, 13, 14], [8, 9, 10, 11, 12, 13, 14, 15], [], [17], [], [19], [17, 18, 19, 20], [8, 9, 10, 11, 12, 13, 14, 15, 16, 17, 18, 19, 20, 21], [0, 1, 2, 3, 4, 5, 6, 7, 8, 9, 10, 11, 12, 13, 14, 15, 16, 17, 18, 19, 20, 21, 22], [0, 1, 2, 3, 4, 5, 6, 7, 8, 9, 10, 11, 12, 13, 14, 15, 16, 17, 18, 19, 20, 21, 22, 23]] (by kernel_rfl) (by kernel_rfl) [2, 4, 5, 12, 14, 15, 16, 17, 102] (fr' := [(2, .ref 0 0), (4, .ref 1 0), (5, .ref 2 0), (12, .ref 3 0), (14, u32 ((f_2018.get 0))), (15, u32 ((f_2018.get 4))), (16, u32 t_2072), (17, u32 u_2084), (102, i64 t_2017)]) (σ' := [.box (C1 u32 h_1647.l) false, .box (C1 u32 ((Arr.rep 8 (0 : UInt32))).l) false, .box (C1 u32 f_1788.l) false, .box (C1 u32 f_2018.l) false]) ⟨_, orcs_ok (l := [(140, 43, [u32 ((f_2018.get 0)), i64 ((-2))], u32 y_2074), (142, 43, [u32 ((f_2018.get 0)), i64 ((-13))], u32 y_2075), (145, 43, [u32 ((f_2018.get 0)), i64 ((-22))], u32 y_2076)]) ⟨bits_RotateLeft32_con  hy_2077, bits_RotateLeft32_con  hy_2078, bits_RotateLeft32_con  hy_2079, trivial⟩, ?_⟩ ?_
      · subst hz_2085; simp only [go_sem, reduceIte, Nat.reduceLT, Nat.reduceEqDiff, Nat.reduceAdd, Int.reduceToNat, hk_2080, hk_2080.2, hk_2081, hk_2081.2, hk_2082, hk_2082.2, hk_2083, hk_2083.2]
      have hk_2086 : InR 1 8 := by decide
      have hk_2087 : InR 2 8 := by decide
      have hk_2088 : InR 3 8 := by decide
      have hk_2089 : InR 5 8 := by decide
      have hk_2090 : InR 6 8 := by decide
      replace h := lt1_some h; obtain ⟨f_2091, hz_2092, h⟩ := h
      refine run_textE0 hE (wk_block wk_then) [2, 4, 5, 12, 102] (fr' := [(2, .ref 0 0), (4, .ref 1 0), (5, .ref 2 0), (12, .ref 3 0), (102, i64 t_2017)]) (σ' := [.box (C1 u32 h_1647.l) false, .box (C1 u32 ((Arr.rep 8 (0 : UInt32))).l) false, .box (C1 u32 f_1788.l) false, .box (C1 u32 f_2091.l) false]) ⟨_, orcs_nil, ?_⟩ ?_
      · subst hz_2092; simp only [go_sem, reduceIte, Nat.reduceLT, Nat.reduceEqDiff, Nat.reduceAdd, Nat.reduceGT, Int.reduceToNat, Nat.reduceLeDiff, hk_2086, hk_2086.2, hk_2087, hk_2087.2, hk_2088, hk_2088.2, hk_2089, hk_2089.2, hk_2090, hk_2090.2, C1_rep, C1_nil, C1_cons]
      refine blockK_n ?_
      refine thenK_n ?_
      refine run_textE0 hE wk_lp [2, 4, 5, 12, 102] (fr' := [(2, .ref 0 0), (4, .ref 1 0), (5, .ref 2 0), (12, .ref 3 0), (102, i64 ((w64 (t_2017 + 1))))]) (σ' := [.box (C1 u32 h_1647.l) false, .box (C1 u32 ((Arr.rep 8 (0 : UInt32))).l) false, .box (C1 u32 f_1788.l) false, .box (C1 u32 f_2091.l) false]) ⟨_, orcs_nil, ?_⟩ ?_
      · simp only [go_sem, reduceIte, Nat.reduceLT, Nat.reduceEqDiff, Nat.reduceAdd]
      obtain rfl := Option.some.inj h
      exact lpK_n (((w64 (t_2017 + 1)), f_2091)) rfl (weak_sel [0, 1, 2, 3] (by decide) rfl (by simp only [go_sem, reduceIte, Nat.reduceLT, Nat.reduceEqDiff, Nat.reduceAdd]) (by simp only [go_sem, reduceIte, Nat.reduceLT, Nat.reduceEqDiff, Nat.reduceAdd]))
    · replace h := ite_f h hb
      refine run_exit ?_
      refine thenK_x ?_
      obtain rfl := Option.some.inj h
      have ex_x_2054 := hxx_2058 _ rfl
      subst ex_x_2054
      have h := hj_2056; clear hj_2056
      refine lpK_x ?_
      refine blockK_x ?_
      obtain rfl := Option.some.inj h
      exact joinK_n f_2018 rfl ((weak_sel (l' := [(2, .ref 0 0), (4, .ref 1 0), (12, .ref 2 0)]) (σ' := [.box (C1 u32 h_1647.l) false, .box (C1 u32 ((Arr.rep 8 (0 : UInt32))).l) false, .box (C1 u32 f_2018.l) false]) [0, 1, 3] (by decide) rfl (by simp only [go_sem, reduceIte, Nat.reduceLT, Nat.reduceEqDiff, Nat.reduceAdd]) (by simp only [go_sem, reduceIte, Nat.reduceLT, Nat.reduceEqDiff, Nat.reduceAdd])).trans (weak_sel [0, 1, 2] (by decide) rfl (by simp only [go_sem, reduceIte, Nat.reduceLT, Nat.reduceEqDiff, Nat.reduceAdd]) (by simp only [go_sem, reduceIte, Nat.reduceLT, Nat.reduceEqDiff, Nat.reduceAdd])))
  rintro f_1979 rfl
  have h := hj_1982; clear hj_1982
  replace h := bind_some1 h; obtain ⟨j_2117, hA_2118, hj_2119⟩ := h
  refine run_join (fun (v : Arr UInt32 8) => (⟨asFr 195 [(2, .ref 0 0), (4, .ref 1 0)], [.box (C1 u32 v.l) false, .box (C1 u32 ((Arr.rep 8 (0 : UInt32))).l) false]⟩ : St)) (fun v => v = j_2117) ?_ ?_
  · have h := hA_2118; clear hA_2118
    refine run_textE hE [2, 4, 12, 182] (fr' := [(2, .ref 0 0), (4, .ref 1 0), (12, .ref 2 0), (182, i64 0)]) (σ' := [.box (C1 u32 h_1647.l) false, .box (C1 u32 ((Arr.rep 8 (0 : UInt32))).l) false, .box (C1 u32 f_1979.l) false]) ⟨_, orcs_nil, ?_⟩ ?_
    · simp only [go_sem, reduceIte, Nat.reduceLT, Nat.reduceEqDiff, Nat.reduceAdd]
    refine run_block ?_
    replace h := bind_some1 h; obtain ⟨x_2133, hx_2134, hj_2135⟩ := h
    refine run_loopO hx_2134 (fun (v : Int × Arr UInt32 8) => (⟨asFr 195 [(2, .ref 0 0), (4, .ref 1 0), (12, .ref 2 0), (182, i64 v.1)], [.box (C1 u32 v.2.l) false, .box (C1 u32 ((Arr.rep 8 (0 : UInt32))).l) false, .box (C1 u32 f_1979.l) false]⟩ : St)) (weak_sel [0, 1, 2] (by decide) rfl (by simp only [go_sem, reduceIte, Nat.reduceLT, Nat.reduceEqDiff, Nat.reduceAdd]) (by simp only [go_sem, reduceIte, Nat.reduceLT, Nat.reduceEqDiff, Nat.reduceAdd])) ?_
    rintro ⟨t_2125, f_2126⟩ o_2136 h hxx_2137
    replace h : digest_block_b4 f_1979 t_2125 f_2126 = some o_2136 := h
    unfold digest_block_b4 at h
    refine run_textE hE [2, 4, 12, 182, 183] (fr' := [(2, .ref 0 0), (4, .ref 1 0), (12, .ref 2 0), (182, i64 t_2125), (183, .bool ((decide (t_2125 < 8))))]) (σ' := [.box (C1 u32 f_2126.l) false, .box (C1 u32 ((Arr.rep 8 (0 : UInt32))).l) false, .box (C1 u32 f_1979.l) false]) ⟨_, orcs_nil, ?_⟩ ?_
    · simp only [go_sem, reduceIte, Nat.reduceLT, Nat.reduceEqDiff, Nat.reduceAdd]
    refine run_seq ?_
    refine run_condL (b := (decide (t_2125 < 8))) rfl (by decide) (fun hb => ?_) (fun hb => ?_)
    · replace h := ite_t h hb
      refine run_skip ?_
      refine thenK_n ?_
      refine run_seq ?_
      refine run_block ?_
      refine run_textE hE [2, 4, 12, 18, 182] (fr' := [(2, .ref 0 0), (4, .ref 1 0), (12, .ref 2 0), (18, i64 t_2125), (182, i64 t_2125)]) (σ' := [.box (C1 u32 f_2126.l) false, .box (C1 u32 ((Arr.rep 8 (0 : UInt32))).l) false, .box (C1 u32 f_1979.l) false]) ⟨_, orcs_nil, ?_⟩ ?_
      · simp only [go_sem, reduceIte, Nat.reduceLT, Nat.reduceEqDiff, Nat.reduceAdd]
      replace h := chk_some h; obtain ⟨hc_2138, h⟩ := h
      replace h := chk_some h; obtain ⟨hc_2139, h⟩ := h
      replace h := chk_some h; obtain ⟨hc_2140, h⟩ := h
      replace h := lt1_some h; obtain ⟨f_2141, hz_2142, h⟩ := h
      refine run_drawE0 hE mixed [[], [0], [0, 1], [], [3], [3, 4], [0, 1, 2, 3, 4, 5], [0, 1, 2, 3, 4, 5, 6], [0, 1, 2, 3, 4, 5, 6, 7]] (by kernel_rfl) (by kernel_rfl) (wk_block wk_then) [2, 4, 12, 182] (fr' := [(2, .ref 0 0), (4, .ref 1 0), (12, .ref 2 0), (182, i64 t_2125)]) (σ' := [.box (C1 u32 f_2141.l) false, .box (C1 u32 ((Arr.rep 8 (0 : UInt32))).l) false, .box (C1 u32 f_1979.l) false]) ⟨_, orcs_nil, ?_⟩ ?_
      · subst hz_2142; simp only [go_sem, reduceIte, Nat.reduceLT, Nat.reduceEqDiff, Nat.reduceAdd, Int.reduceToNat, Nat.reduceLeDiff, hc_2138, hc_2138.2, lt_le hc_2138.2, hc_2139, hc_2139.2, lt_le hc_2139.2, hc_2140, hc_2140.2, lt_le hc_2140.2]
      refine blockK_n ?_
      refine thenK_n ?_
      refine run_textE0 hE wk_lp [2, 4, 12, 182] (fr' := [(2, .ref 0 0), (4, .ref 1 0), (12, .ref 2 0), (182, i64 ((w64 (t_2125 + 1))))]) (σ' := [.box (C1 u32 f_2141.l) false, .box (C1 u32 ((Arr.rep 8 (0 : UInt32))).l) false, .box (C1 u32 f_1979.l) false]) ⟨_, orcs_nil, ?_⟩ ?_
      · simp only [go_sem, reduceIte, Nat.reduceLT, Nat.reduceEqDiff, Nat.reduceAdd]
      obtain rfl := Option.some.inj h
      exact lpK_n (((w64 (t_2125 + 1)), f_2141)) rfl (weak_sel [0, 1, 2] (by decide) rfl (by simp only [go_sem, reduceIte, Nat.reduceLT, Nat.reduceEqDiff, Nat.reduceAdd]) (by simp only [go_sem, reduceIte, Nat.reduceLT, Nat.reduceEqDiff, Nat.reduceAdd]))
    · replace h := ite_f h hb
      refine run_exit ?_
      refine thenK_x ?_
      obtain rfl := Option.some.inj h
      have ex_x_2133 := hxx_2137 _ rfl
      subst ex_x_2133
      have h := hj_2135; clear hj_2135
      refine lpK_x ?_
      refine blockK_x ?_
      obtain rfl := Option.some.inj h
      exact joinK_n f_2126 rfl ((weak_sel (l' := [(2, .ref 0 0), (4, .ref 1 0)]) (σ' := [.box (C1 u32 f_2126.l) false, .box (C1 u32 ((Arr.rep 8 (0 : UInt32))).l) false]) [0, 1] (by decide) rfl (by simp only [go_sem, reduceIte, Nat.reduceLT, Nat.reduceEqDiff, Nat.reduceAdd]) (by simp only [go_sem, reduceIte, Nat.reduceLT, Nat.reduceEqDiff, Nat.reduceAdd])).trans (weak_sel [0, 1] (by decide) rfl (by simp only [go_sem, reduceIte, Nat.reduceLT, Nat.reduceEqDiff, Nat.reduceAdd]) (by simp only [go_sem, reduceIte, Nat.reduceLT, Nat.reduceEqDiff, Nat.reduceAdd])))
  rintro f_2116 rfl
  have h := hj_2119; clear hj_2119
  refine run_textE hE [4] (fr' := [(4, .ref 1 0)]) (σ' := [.box (C1 u32 f_2116.l) false, .box (C1 u32 f_2116.l) false]) ⟨_, orcs_nil, ?_⟩ ?_
  · simp only [go_sem, reduceIte, Nat.reduceLT, Nat.reduceEqDiff, Nat.reduceAdd]
  refine run_ret ?_
  obtain rfl := Option.some.inj h
  refine ret_ok (.inr rfl) ?_
  simp only [go_sem, reduceIte, Nat.reduceLT, Nat.reduceEqDiff, Nat.reduceAdd]

end Go.Proofs.YtgdiabbgiiemcaaDoor
/-
  The functions compute just that.
-/
namespace Go.Proofs.YtgdiabbgiiemcaaDoor
open Go.Rv
set_option linter.unusedVariables false
set_option linter.unusedSimpArgs false
set_option maxRecDepth 20000

theorem digest_sum_con {parts_2240 : List (List UInt8)} {r : Arr UInt8 32} (h : digest_sum parts_2240 = some r) : Con B 28 [.sl false (L (cSl cU8) parts_2240)] [] (fun r' σ' => r' = .agg (C1 u8 r.l) ∧ σ' = []) := by
  refine con_walk (N := 72) (rs := [.cell 2 25]) ok Tryd.func28 rfl (by decide +kernel) rfl rfl (Nat.le_of_ble_eq_true rfl) (fun F => ?_)
  have hE := ok.env F
  unfold digest_sum at h
  show Run (B.env F) 0 _ ⟨asFr 72 [(0, .sl false (L (cSl cU8) parts_2240))], []⟩ _
  refine run_textE hE [0, 2] (fr' := [(0, .sl false (L (cSl cU8) parts_2240)), (2, .ref 0 0)]) (σ' := [.box (C1 u8 ((Arr.rep 32 (0 : UInt8))).l) false]) ⟨_, orcs_nil, ?_⟩ ?_
  · simp only [go_sem, reduceIte, Nat.reduceLT, Nat.reduceEqDiff, Nat.reduceAdd]
  refine run_textE hE [0, 2, 3] (fr' := [(0, .sl false (L (cSl cU8) parts_2240)), (2, .ref 0 0), (3, .sl true (L cU8 ([])))]) (σ' := [.box (C1 u8 ((Arr.rep 32 (0 : UInt8))).l) false]) ⟨_, orcs_nil, ?_⟩ ?_
  · simp only [go_sem, reduceIte, Nat.reduceLT, Nat.reduceEqDiff, Nat.reduceAdd]
  replace h := bind_some1 h; obtain ⟨j_2266, hA_2267, hj_2268⟩ := h
  refine run_join (fun (v : List UInt8) => (⟨asFr 72 [(2, .ref 0 0), (3, .bs false 1 (v.length) 0 (v.length))], [.box (C1 u8 ((Arr.rep 32 (0 : UInt8))).l) false, .buf 1 (L cU8 v) false]⟩ : St)) (fun v => v = j_2266) ?_ ?_
  · have h := hA_2267; clear hA_2267
    refine run_textE hE [2, 3, 10, 11, 12] (fr' := [(2, .ref 0 0), (3, .sl true (L cU8 ([]))), (10, .sl false (L (cSl cU8) parts_2240)), (11, i64 ((parts_2240.length : Int))), (12, i64 0)]) (σ' := [.box (C1 u8 ((Arr.rep 32 (0 : UInt8))).l) false]) ⟨_, orcs_nil, ?_⟩ ?_
    · simp only [go_sem, reduceIte, Nat.reduceLT, Nat.reduceEqDiff, Nat.reduceAdd]
    refine run_block ?_
    replace h := bind_some1 h; obtain ⟨x_2282, hx_2283, hj_2284⟩ := h
    refine run_loopO hx_2283 (fun (v : Int × List UInt8) => (⟨asFr 72 [(2, .ref 0 0), (3, .bs false 1 (v.2.length) 0 (v.2.length)), (10, .sl false (L (cSl cU8) parts_2240)), (11, i64 ((parts_2240.length : Int))), (12, i64 v.1)], [.box (C1 u8 ((Arr.rep 32 (0 : UInt8))).l) false, .buf 1 (L cU8 v.2) false]⟩ : St)) ((weak_nil 3 1 rfl).trans (weak_sel [0, 1] (by decide) rfl (by simp only [go_sem, reduceIte, Nat.reduceLT, Nat.reduceEqDiff, Nat.reduceAdd]) (by simp only [go_sem, reduceIte, Nat.reduceLT, Nat.reduceEqDiff, Nat.reduceAdd]))) ?_
    rintro ⟨t_2273, l_2274⟩ o_2285 h hxx_2286
    replace h : digest_sum_b1 parts_2240 t_2273 l_2274 = some o_2285 := h
    unfold digest_sum_b1 at h
    refine run_textE hE [2, 3, 10, 11, 12, 13] (fr' := [(2, .ref 0 0), (3, .bs false 1 (l_2274.length) 0 (l_2274.length)), (10, .sl false (L (cSl cU8) parts_2240)), (11, i64 ((parts_2240.length : Int))), (12, i64 t_2273), (13, .bool ((decide (t_2273 < (parts_2240.length : Int)))))]) (σ' := [.box (C1 u8 ((Arr.rep 32 (0 : UInt8))).l) false, .buf 1 (L cU8 l_2274) false]) ⟨_, orcs_nil, ?_⟩ ?_
    · simp only [go_sem, reduceIte, Nat.reduceLT, Nat.reduceEqDiff, Nat.reduceAdd]
    refine run_seq ?_
    refine run_condL (b := (decide (t_2273 < (parts_2240.length : Int)))) rfl (by decide) (fun hb => ?_) (fun hb => ?_)
    · replace h := ite_t h hb
      refine run_skip ?_
      refine thenK_n ?_
      refine run_seq ?_
      refine run_block ?_
      replace h := chk_some h; obtain ⟨hc_2287, h⟩ := h
      replace h := lt1_some h; obtain ⟨p_2288, hz_2289, h⟩ := h
      refine run_textE hE [2, 3, 5, 10, 11, 12] (fr' := [(2, .ref 0 0), (3, .bs false 1 (l_2274.length) 0 (l_2274.length)), (5, .sl false (L cU8 p_2288)), (10, .sl false (L (cSl cU8) parts_2240)), (11, i64 ((parts_2240.length : Int))), (12, i64 t_2273)]) (σ' := [.box (C1 u8 ((Arr.rep 32 (0 : UInt8))).l) false, .buf 1 (L cU8 l_2274) false]) ⟨_, orcs_nil, ?_⟩ ?_
      · subst hz_2289; simp only [go_sem, reduceIte, Nat.reduceLT, Nat.reduceEqDiff, Nat.reduceAdd, Int.reduceToNat, hc_2287, hc_2287.2, lt_le hc_2287.2]
      replace h := chk_some h; obtain ⟨hc_2290, h⟩ := h
      replace h := lt1_some h; obtain ⟨l_2291, hz_2292, h⟩ := h
      refine run_textE0 hE (wk_block wk_then) [2, 3, 10, 11, 12] (fr' := [(2, .ref 0 0), (3, .bs false 1 (l_2291.length) 0 (l_2291.length)), (10, .sl false (L (cSl cU8) parts_2240)), (11, i64 ((parts_2240.length : Int))), (12, i64 t_2273)]) (σ' := [.box (C1 u8 ((Arr.rep 32 (0 : UInt8))).l) false, .buf 1 (L cU8 l_2291) false]) ⟨_, orcs_nil, ?_⟩ ?_
      · subst hz_2292; simp only [go_sem, reduceIte, Nat.reduceLT, Nat.reduceEqDiff, Nat.reduceAdd, hc_2290]
      refine blockK_n ?_
      refine thenK_n ?_
      refine run_textE0 hE wk_lp [2, 3, 10, 11, 12] (fr' := [(2, .ref 0 0), (3, .bs false 1 (l_2291.length) 0 (l_2291.length)), (10, .sl false (L (cSl cU8) parts_2240)), (11, i64 ((parts_2240.length : Int))), (12, i64 ((w64 (t_2273 + 1))))]) (σ' := [.box (C1 u8 ((Arr.rep 32 (0 : UInt8))).l) false, .buf 1 (L cU8 l_2291) false]) ⟨_, orcs_nil, ?_⟩ ?_
      · simp only [go_sem, reduceIte, Nat.reduceLT, Nat.reduceEqDiff, Nat.reduceAdd]
      obtain rfl := Option.some.inj h
      exact lpK_n (((w64 (t_2273 + 1)), l_2291)) rfl (weak_sel [0, 1] (by decide) rfl (by simp only [go_sem, reduceIte, Nat.reduceLT, Nat.reduceEqDiff, Nat.reduceAdd]) (by simp only [go_sem, reduceIte, Nat.reduceLT, Nat.reduceEqDiff, Nat.reduceAdd]))
    · replace h := ite_f h hb
      refine run_exit ?_
      refine thenK_x ?_
      obtain rfl := Option.some.inj h
      have ex_x_2282 := hxx_2286 _ rfl
      subst ex_x_2282
      have h := hj_2284; clear hj_2284
      refine lpK_x ?_
      refine blockK_x ?_
      obtain rfl := Option.some.inj h
      exact joinK_n l_2274 rfl ((weak_sel (l' := [(2, .ref 0 0), (3, .bs false 1 (l_2274.length) 0 (l_2274.length))]) (σ' := [.box (C1 u8 ((Arr.rep 32 (0 : UInt8))).l) false, .buf 1 (L cU8 l_2274) false]) [0, 1] (by decide) rfl (by simp only [go_sem, reduceIte, Nat.reduceLT, Nat.reduceEqDiff, Nat.reduceAdd]) (by simp only [go_sem, reduceIte, Nat.reduceLT, Nat.reduceEqDiff, Nat.reduceAdd])).trans (weak_sel [0, 1] (by decide) rfl (by simp only [go_sem, reduceIte, Nat.reduceLT, Nat.reduceEqDiff, Nat.reduceAdd]) (by simp only [go_sem, reduceIte, Nat.reduceLT, Nat.reduceEqDiff, Nat.reduceAdd])))
  rintro l_2265 rfl
  have h := hj_2268; clear hj_2268
  replace h := lt1_some h; obtain ⟨n_2293, hz_2294, h⟩ := h
  refine run_textE hE [2, 3, 6] (fr' := [(2, .ref 0 0), (3, .bs false 1 (l_2265.length) 0 (l_2265.length)), (6, u64 n_2293)]) (σ' := [.box (C1 u8 ((Arr.rep 32 (0 : UInt8))).l) false, .buf 1 (L cU8 l_2265) false]) ⟨_, orcs_nil, ?_⟩ ?_
  · subst hz_2294; simp only [go_sem, reduceIte, Nat.reduceLT, Nat.reduceEqDiff, Nat.reduceAdd]
  replace h := chk_some h; obtain ⟨hc_2295, h⟩ := h
  replace h := lt1_some h; obtain ⟨l_2296, hz_2297, h⟩ := h
  refine run_textE hE [2, 3, 6] (fr' := [(2, .ref 0 0), (3, .bs false 1 (l_2296.length) 0 (l_2296.length)), (6, u64 n_2293)]) (σ' := [.box (C1 u8 ((Arr.rep 32 (0 : UInt8))).l) false, .buf 1 (L cU8 l_2296) false, .buf 1 (L cU8 (([(128 : UInt8)] : List UInt8))) false]) ⟨_, orcs_nil, ?_⟩ ?_
  · subst hz_2297; simp only [go_sem, reduceIte, Nat.reduceLT, Nat.reduceEqDiff, Nat.reduceAdd, Nat.reduceBEq, Nat.reduceMul, Nat.reduceSub, Nat.reduceGT, Nat.reducePow, Nat.reduceLeDiff, Int.reduceToNat, hc_2295]
  replace h := bind_some1 h; obtain ⟨j_2318, hA_2319, hj_2320⟩ := h
  refine run_join (fun (v : List UInt8) => (⟨asFr 72 [(2, .ref 0 0), (3, .bs false 1 (v.length) 0 (v.length)), (6, u64 n_2293)], [.box (C1 u8 ((Arr.rep 32 (0 : UInt8))).l) false, .buf 1 (L cU8 v) false]⟩ : St)) (fun v => v = j_2318) ?_ ?_
  · have h := hA_2319; clear hA_2319
    refine run_block ?_
    replace h := bind_some1 h; obtain ⟨x_2331, hx_2332, hj_2333⟩ := h
    refine run_loopO hx_2332 (fun (v : List UInt8) => (⟨asFr 72 [(2, .ref 0 0), (3, .bs false 1 (v.length) 0 (v.length)), (6, u64 n_2293)], [.box (C1 u8 ((Arr.rep 32 (0 : UInt8))).l) false, .buf 1 (L cU8 v) false]⟩ : St)) (weak_sel [0, 1] (by decide) rfl (by simp only [go_sem, reduceIte, Nat.reduceLT, Nat.reduceEqDiff, Nat.reduceAdd]) (by simp only [go_sem, reduceIte, Nat.reduceLT, Nat.reduceEqDiff, Nat.reduceAdd])) ?_
    rintro l_2325 o_2334 h hxx_2335
    replace h : digest_sum_b2 l_2325 = some o_2334 := h
    unfold digest_sum_b2 at h
    refine run_seq ?_
    have hk_2336 : ¬(64 : Int) = 0 := by decide
    refine run_textE hE [2, 3, 6, 30] (fr' := [(2, .ref 0 0), (3, .bs false 1 (l_2325.length) 0 (l_2325.length)), (6, u64 n_2293), (30, .bool (((((l_2325.length : Int) : Int).tmod 64) != 56)))]) (σ' := [.box (C1 u8 ((Arr.rep 32 (0 : UInt8))).l) false, .buf 1 (L cU8 l_2325) false]) ⟨_, orcs_nil, ?_⟩ ?_
    · simp only [go_sem, reduceIte, Nat.reduceLT, Nat.reduceEqDiff, Nat.reduceAdd, hk_2336]
    refine run_condL (b := ((((l_2325.length : Int) : Int).tmod 64) != 56)) rfl (by decide) (fun hb => ?_) (fun hb => ?_)
    · replace h := ite_t h hb
      refine run_skip ?_
      refine thenK_n ?_
      refine run_block ?_
      replace h := chk_some h; obtain ⟨hc_2337, h⟩ := h
      replace h := lt1_some h; obtain ⟨l_2338, hz_2339, h⟩ := h
      refine run_textE0 hE (wk_block wk_lp) [2, 3, 6] (fr' := [(2, .ref 0 0), (3, .bs false 1 (l_2338.length) 0 (l_2338.length)), (6, u64 n_2293)]) (σ' := [.box (C1 u8 ((Arr.rep 32 (0 : UInt8))).l) false, .buf 1 (L cU8 l_2338) false, .buf 1 (L cU8 (([(0 : UInt8)] : List UInt8))) false]) ⟨_, orcs_nil, ?_⟩ ?_
      · subst hz_2339; simp only [go_sem, reduceIte, Nat.reduceLT, Nat.reduceEqDiff, Nat.reduceAdd, Nat.reduceBEq, Nat.reduceMul, Nat.reduceSub, Nat.reduceGT, Nat.reducePow, Nat.reduceLeDiff, Int.reduceToNat, hc_2337]
      refine blockK_n ?_
      obtain rfl := Option.some.inj h
      exact lpK_n l_2338 rfl (weak_sel [0, 1] (by decide) rfl (by simp only [go_sem, reduceIte, Nat.reduceLT, Nat.reduceEqDiff, Nat.reduceAdd]) (by simp only [go_sem, reduceIte, Nat.reduceLT, Nat.reduceEqDiff, Nat.reduceAdd]))
    · replace h := ite_f h hb
      refine run_exit ?_
      refine thenK_x ?_
      obtain rfl := Option.some.inj h
      have ex_x_2331 := hxx_2335 _ rfl
      subst ex_x_2331
      have h := hj_2333; clear hj_2333
      refine lpK_x ?_
      refine blockK_x ?_
      obtain rfl := Option.some.inj h
      exact joinK_n l_2325 rfl ((weak_sel (l' := [(2, .ref 0 0), (3, .bs false 1 (l_2325.length) 0 (l_2325.length)), (6, u64 n_2293)]) (σ' := [.box (C1 u8 ((Arr.rep 32 (0 : UInt8))).l) false, .buf 1 (L cU8 l_2325) false]) [0, 1] (by decide) rfl (by simp only [go_sem, reduceIte, Nat.reduceLT, Nat.reduceEqDiff, Nat.reduceAdd]) (by simp only [go_sem, reduceIte, Nat.reduceLT, Nat.reduceEqDiff, Nat.reduceAdd])).trans (weak_sel [0, 1] (by decide) rfl (by simp only [go_sem, reduceIte, Nat.reduceLT, Nat.reduceEqDiff, Nat.reduceAdd]) (by simp only [go_sem, reduceIte, Nat.reduceLT, Nat.reduceEqDiff, Nat.reduceAdd])))
  rintro l_2317 rfl
  have h := hj_2320; clear hj_2320
  replace h := bind_some1 h; obtain ⟨j_2361, hA_2362, hj_2363⟩ := h
  refine run_join (fun (v : List UInt8) => (⟨asFr 72 [(2, .ref 0 0), (3, .bs false 1 (v.length) 0 (v.length))], [.box (C1 u8 ((Arr.rep 32 (0 : UInt8))).l) false, .buf 1 (L cU8 v) false]⟩ : St)) (fun v => v = j_2361) ?_ ?_
  · have h := hA_2362; clear hA_2362
    refine run_textE hE [2, 3, 6, 7] (fr' := [(2, .ref 0 0), (3, .bs false 1 (l_2317.length) 0 (l_2317.length)), (6, u64 n_2293), (7, i64 56)]) (σ' := [.box (C1 u8 ((Arr.rep 32 (0 : UInt8))).l) false, .buf 1 (L cU8 l_2317) false]) ⟨_, orcs_nil, ?_⟩ ?_
    · simp only [go_sem, reduceIte, Nat.reduceLT, Nat.reduceEqDiff, Nat.reduceAdd]
    refine run_block ?_
    replace h := bind_some1 h; obtain ⟨x_2375, hx_2376, hj_2377⟩ := h
    refine run_loopO hx_2376 (fun (v : Int × List UInt8) => (⟨asFr 72 [(2, .ref 0 0), (3, .bs false 1 (v.2.length) 0 (v.2.length)), (6, u64 n_2293), (7, i64 v.1)], [.box (C1 u8 ((Arr.rep 32 (0 : UInt8))).l) false, .buf 1 (L cU8 v.2) false]⟩ : St)) (weak_sel [0, 1] (by decide) rfl (by simp only [go_sem, reduceIte, Nat.reduceLT, Nat.reduceEqDiff, Nat.reduceAdd]) (by simp only [go_sem, reduceIte, Nat.reduceLT, Nat.reduceEqDiff, Nat.reduceAdd])) ?_
    rintro ⟨i_2368, l_2369⟩ o_2378 h hxx_2379
    replace h : digest_sum_b3 n_2293 i_2368 l_2369 = some o_2378 := h
    unfold digest_sum_b3 at h
    refine run_seq ?_
    refine run_textE hE [2, 3, 6, 7, 35] (fr' := [(2, .ref 0 0), (3, .bs false 1 (l_2369.length) 0 (l_2369.length)), (6, u64 n_2293), (7, i64 i_2368), (35, .bool ((decide (i_2368 ≥ 0))))]) (σ' := [.box (C1 u8 ((Arr.rep 32 (0 : UInt8))).l) false, .buf 1 (L cU8 l_2369) false]) ⟨_, orcs_nil, ?_⟩ ?_
    · simp only [go_sem, reduceIte, Nat.reduceLT, Nat.reduceEqDiff, Nat.reduceAdd]
    refine run_condL (b := (decide (i_2368 ≥ 0))) rfl (by decide) (fun hb => ?_) (fun hb => ?_)
    · replace h := ite_t h hb
      refine run_skip ?_
      refine thenK_n ?_
      refine run_seq ?_
      refine run_block ?_
      replace h := chk_some h; obtain ⟨hc_2380, h⟩ := h
      replace h := chk_some h; obtain ⟨hc_2381, h⟩ := h
      replace h := lt1_some h; obtain ⟨l_2382, hz_2383, h⟩ := h
      refine run_textE0 hE (wk_block wk_then) [2, 3, 6, 7] (fr' := [(2, .ref 0 0), (3, .bs false 1 (l_2382.length) 0 (l_2382.length)), (6, u64 n_2293), (7, i64 i_2368)]) (σ' := [.box (C1 u8 ((Arr.rep 32 (0 : UInt8))).l) false, .buf 1 (L cU8 l_2382) false, .buf 1 (L cU8 (([((shr64 n_2293 i_2368.toNat)).toUInt8] : List UInt8))) false]) ⟨_, orcs_nil, ?_⟩ ?_
      · subst hz_2383; simp only [go_sem, reduceIte, Nat.reduceLT, Nat.reduceEqDiff, Nat.reduceAdd, Nat.reduceBEq, Nat.reduceMul, Nat.reduceSub, Nat.reduceGT, Nat.reducePow, Nat.reduceLeDiff, Int.reduceToNat, hc_2380, hc_2381]
      refine blockK_n ?_
      refine thenK_n ?_
      refine run_textE0 hE wk_lp [2, 3, 6, 7] (fr' := [(2, .ref 0 0), (3, .bs false 1 (l_2382.length) 0 (l_2382.length)), (6, u64 n_2293), (7, i64 ((w64 (i_2368 - 8))))]) (σ' := [.box (C1 u8 ((Arr.rep 32 (0 : UInt8))).l) false, .buf 1 (L cU8 l_2382) false, .buf 1 (L cU8 (([((shr64 n_2293 i_2368.toNat)).toUInt8] : List UInt8))) false]) ⟨_, orcs_nil, ?_⟩ ?_
      · simp only [go_sem, reduceIte, Nat.reduceLT, Nat.reduceEqDiff, Nat.reduceAdd]
      obtain rfl := Option.some.inj h
      exact lpK_n (((w64 (i_2368 - 8)), l_2382)) rfl (weak_sel [0, 1] (by decide) rfl (by simp only [go_sem, reduceIte, Nat.reduceLT, Nat.reduceEqDiff, Nat.reduceAdd]) (by simp only [go_sem, reduceIte, Nat.reduceLT, Nat.reduceEqDiff, Nat.reduceAdd]))
    · replace h := ite_f h hb
      refine run_exit ?_
      refine thenK_x ?_
      obtain rfl := Option.some.inj h
      have ex_x_2375 := hxx_2379 _ rfl
      subst ex_x_2375
      have h := hj_2377; clear hj_2377
      refine lpK_x ?_
      refine blockK_x ?_
      obtain rfl := Option.some.inj h
      exact joinK_n l_2369 rfl ((weak_sel (l' := [(2, .ref 0 0), (3, .bs false 1 (l_2369.length) 0 (l_2369.length))]) (σ' := [.box (C1 u8 ((Arr.rep 32 (0 : UInt8))).l) false, .buf 1 (L cU8 l_2369) false]) [0, 1] (by decide) rfl (by simp only [go_sem, reduceIte, Nat.reduceLT, Nat.reduceEqDiff, Nat.reduceAdd]) (by simp only [go_sem, reduceIte, Nat.reduceLT, Nat.reduceEqDiff, Nat.reduceAdd])).trans (weak_sel [0, 1] (by decide) rfl (by simp only [go_sem, reduceIte, Nat.reduceLT, Nat.reduceEqDiff, Nat.reduceAdd]) (by simp only [go_sem, reduceIte, Nat.reduceLT, Nat.reduceEqDiff, Nat.reduceAdd])))
  rintro l_2360 rfl
  have h := hj_2363; clear hj_2363
  replace h := lt1_some h; obtain ⟨f_2384, hz_2385, h⟩ := h
  refine run_textE hE [2, 3, 8] (fr' := [(2, .ref 0 0), (3, .bs false 1 (l_2360.length) 0 (l_2360.length)), (8, .ref 2 0)]) (σ' := [.box (C1 u8 ((Arr.rep 32 (0 : UInt8))).l) false, .buf 1 (L cU8 l_2360) false, .box (C1 u32 f_2384.l) false]) ⟨_, orcs_nil, ?_⟩ ?_
  · subst hz_2385; simp only [go_sem, reduceIte, Nat.reduceLT, Nat.reduceEqDiff, Nat.reduceAdd, Nat.reduceGT, C1_rep, C1_nil, C1_cons]
  replace h := bind_some1 h; obtain ⟨j_2408, hA_2409, hj_2410⟩ := h
  refine run_join (fun (v : Arr UInt32 8) => (⟨asFr 72 [(2, .ref 0 0), (8, .ref 1 0)], [.box (C1 u8 ((Arr.rep 32 (0 : UInt8))).l) false, .box (C1 u32 v.l) false]⟩ : St)) (fun v => v = j_2408) ?_ ?_
  · have h := hA_2409; clear hA_2409
    refine run_block ?_
    replace h := bind_some1 h; obtain ⟨x_2423, hx_2424, hj_2425⟩ := h
    refine run_loopO hx_2424 (fun (v : Nat × Nat × Arr UInt32 8) => (⟨asFr 72 [(2, .ref 0 0), (3, .bs false 1 (l_2360.length) v.1 v.2.1), (8, .ref 2 0)], [.box (C1 u8 ((Arr.rep 32 (0 : UInt8))).l) false, .buf 1 (L cU8 l_2360) false, .box (C1 u32 v.2.2.l) false]⟩ : St)) (weak_sel [0, 1, 2] (by decide) rfl (by simp only [go_sem, reduceIte, Nat.reduceLT, Nat.reduceEqDiff, Nat.reduceAdd]) (by simp only [go_sem, reduceIte, Nat.reduceLT, Nat.reduceEqDiff, Nat.reduceAdd])) ?_
    rintro ⟨m_2415, m_2416, f_2417⟩ o_2426 h hxx_2427
    replace h : digest_sum_b4 l_2360 m_2415 m_2416 f_2417 = some o_2426 := h
    unfold digest_sum_b4 at h
    refine run_seq ?_
    refine run_textE hE [2, 3, 8, 48] (fr' := [(2, .ref 0 0), (3, .bs false 1 (l_2360.length) m_2415 m_2416), (8, .ref 2 0), (48, .bool ((decide ((m_2416 : Int) > 0))))]) (σ' := [.box (C1 u8 ((Arr.rep 32 (0 : UInt8))).l) false, .buf 1 (L cU8 l_2360) false, .box (C1 u32 f_2417.l) false]) ⟨_, orcs_nil, ?_⟩ ?_
    · simp only [go_sem, reduceIte, Nat.reduceLT, Nat.reduceEqDiff, Nat.reduceAdd]
    refine run_condL (b := (decide ((m_2416 : Int) > 0))) rfl (by decide) (fun hb => ?_) (fun hb => ?_)
    · replace h := ite_t h hb
      refine run_skip ?_
      refine thenK_n ?_
      refine run_seq ?_
      refine run_block ?_
      replace h := chk_some h; obtain ⟨hc_2429, h⟩ := h
      replace h := bind_some1 h; obtain ⟨y_2428, hy_2430, h⟩ := h
      refine run_drawE0 hE mixed [[], [], [1], [0, 1, 2], [0, 1, 2, 3]] (by kernel_rfl) (by kernel_rfl) (wk_block wk_then) [2, 3, 8] (fr' := [(2, .ref 0 0), (3, .bs false 1 (l_2360.length) m_2415 m_2416), (8, .ref 2 0)]) (σ' := [.box (C1 u8 ((Arr.rep 32 (0 : UInt8))).l) false, .buf 1 (L cU8 l_2360) false, .box (C1 u32 y_2428.l) false]) ⟨_, orcs_ok (l := [(54, 36, [.agg (C1 u32 f_2417.l), .sl false (L cU8 (((l_2360.drop m_2415).take 64)))], .agg (C1 u32 y_2428.l))]) ⟨digest_block_con  hy_2430, trivial⟩, ?_⟩ ?_
      · simp only [go_sem, reduceIte, Nat.reduceLT, Nat.reduceEqDiff, Nat.reduceAdd, Int.reduceToNat, hc_2429]
      refine blockK_n ?_
      refine thenK_n ?_
      replace h := chk_some h; obtain ⟨hc_2431, h⟩ := h
      refine run_textE0 hE wk_lp [2, 3, 8] (fr' := [(2, .ref 0 0), (3, .bs false 1 (l_2360.length) ((m_2415 + 64)) ((m_2416 - 64))), (8, .ref 2 0)]) (σ' := [.box (C1 u8 ((Arr.rep 32 (0 : UInt8))).l) false, .buf 1 (L cU8 l_2360) false, .box (C1 u32 y_2428.l) false]) ⟨_, orcs_nil, ?_⟩ ?_
      · simp only [go_sem, reduceIte, Nat.reduceLT, Nat.reduceEqDiff, Nat.reduceAdd, Int.reduceToNat, hc_2431]
      obtain rfl := Option.some.inj h
      exact lpK_n (((m_2415 + 64), (m_2416 - 64), y_2428)) rfl (weak_sel [0, 1, 2] (by decide) rfl (by simp only [go_sem, reduceIte, Nat.reduceLT, Nat.reduceEqDiff, Nat.reduceAdd]) (by simp only [go_sem, reduceIte, Nat.reduceLT, Nat.reduceEqDiff, Nat.reduceAdd]))
    · replace h := ite_f h hb
      refine run_exit ?_
      refine thenK_x ?_
      obtain rfl := Option.some.inj h
      have ex_x_2423 := hxx_2427 _ rfl
      subst ex_x_2423
      have h := hj_2425; clear hj_2425
      refine lpK_x ?_
      refine blockK_x ?_
      obtain rfl := Option.some.inj h
      exact joinK_n f_2417 rfl ((weak_sel (l' := [(2, .ref 0 0), (8, .ref 1 0)]) (σ' := [.box (C1 u8 ((Arr.rep 32 (0 : UInt8))).l) false, .box (C1 u32 f_2417.l) false]) [0, 2] (by decide) rfl (by simp only [go_sem, reduceIte, Nat.reduceLT, Nat.reduceEqDiff, Nat.reduceAdd]) (by simp only [go_sem, reduceIte, Nat.reduceLT, Nat.reduceEqDiff, Nat.reduceAdd])).trans (weak_sel [0, 1] (by decide) rfl (by simp only [go_sem, reduceIte, Nat.reduceLT, Nat.reduceEqDiff, Nat.reduceAdd]) (by simp only [go_sem, reduceIte, Nat.reduceLT, Nat.reduceEqDiff, Nat.reduceAdd])))
  rintro f_2407 rfl
  have h := hj_2410; clear hj_2410
  replace h := bind_some1 h; obtain ⟨j_2462, hA_2463, hj_2464⟩ := h
  refine run_join (fun (v : Arr UInt8 32) => (⟨asFr 72 [(2, .ref 0 0)], [.box (C1 u8 v.l) false]⟩ : St)) (fun v => v = j_2462) ?_ ?_
  · have h := hA_2463; clear hA_2463
    refine run_textE hE [2, 8, 55] (fr' := [(2, .ref 0 0), (8, .ref 1 0), (55, i64 0)]) (σ' := [.box (C1 u8 ((Arr.rep 32 (0 : UInt8))).l) false, .box (C1 u32 f_2407.l) false]) ⟨_, orcs_nil, ?_⟩ ?_
    · simp only [go_sem, reduceIte, Nat.reduceLT, Nat.reduceEqDiff, Nat.reduceAdd]
    refine run_block ?_
    replace h := bind_some1 h; obtain ⟨x_2482, hx_2483, hj_2484⟩ := h
    refine run_loopO hx_2483 (fun (v : Int × Arr UInt8 32) => (⟨asFr 72 [(2, .ref 0 0), (8, .ref 1 0), (55, i64 v.1)], [.box (C1 u8 v.2.l) false, .box (C1 u32 f_2407.l) false]⟩ : St)) (weak_sel [0, 1] (by decide) rfl (by simp only [go_sem, reduceIte, Nat.reduceLT, Nat.reduceEqDiff, Nat.reduceAdd]) (by simp only [go_sem, reduceIte, Nat.reduceLT, Nat.reduceEqDiff, Nat.reduceAdd])) ?_
    rintro ⟨t_2472, f_2473⟩ o_2485 h hxx_2486
    replace h : digest_sum_b5 f_2407 t_2472 f_2473 = some o_2485 := h
    unfold digest_sum_b5 at h
    refine run_textE hE [2, 8, 55, 56] (fr' := [(2, .ref 0 0), (8, .ref 1 0), (55, i64 t_2472), (56, .bool ((decide (t_2472 < 32))))]) (σ' := [.box (C1 u8 f_2473.l) false, .box (C1 u32 f_2407.l) false]) ⟨_, orcs_nil, ?_⟩ ?_
    · simp only [go_sem, reduceIte, Nat.reduceLT, Nat.reduceEqDiff, Nat.reduceAdd]
    refine run_seq ?_
    refine run_condL (b := (decide (t_2472 < 32))) rfl (by decide) (fun hb => ?_) (fun hb => ?_)
    · replace h := ite_t h hb
      refine run_skip ?_
      refine thenK_n ?_
      refine run_seq ?_
      refine run_block ?_
      refine run_textE hE [2, 8, 9, 55] (fr' := [(2, .ref 0 0), (8, .ref 1 0), (9, i64 t_2472), (55, i64 t_2472)]) (σ' := [.box (C1 u8 f_2473.l) false, .box (C1 u32 f_2407.l) false]) ⟨_, orcs_nil, ?_⟩ ?_
      · simp only [go_sem, reduceIte, Nat.reduceLT, Nat.reduceEqDiff, Nat.reduceAdd]
      have hk_2487 : ¬(4 : Int) = 0 := by decide
      replace h := chk_some h; obtain ⟨hc_2488, h⟩ := h
      have hk_2489 : ¬(4 : Int) = 0 := by decide
      replace h := chk_some h; obtain ⟨hc_2490, h⟩ := h
      replace h := chk_some h; obtain ⟨hc_2491, h⟩ := h
      replace h := lt1_some h; obtain ⟨f_2492, hz_2493, h⟩ := h
      refine run_textE0 hE (wk_block wk_then) [2, 8, 55] (fr' := [(2, .ref 0 0), (8, .ref 1 0), (55, i64 t_2472)]) (σ' := [.box (C1 u8 f_2492.l) false, .box (C1 u32 f_2407.l) false]) ⟨_, orcs_nil, ?_⟩ ?_
      · subst hz_2493; simp only [go_sem, reduceIte, Nat.reduceLT, Nat.reduceEqDiff, Nat.reduceAdd, Int.reduceToNat, Nat.reduceLeDiff, hk_2487, hc_2488, hc_2488.2, lt_le hc_2488.2, hk_2489, hc_2490, hc_2491, hc_2491.2, lt_le hc_2491.2]
      refine blockK_n ?_
      refine thenK_n ?_
      refine run_textE0 hE wk_lp [2, 8, 55] (fr' := [(2, .ref 0 0), (8, .ref 1 0), (55, i64 ((w64 (t_2472 + 1))))]) (σ' := [.box (C1 u8 f_2492.l) false, .box (C1 u32 f_2407.l) false]) ⟨_, orcs_nil, ?_⟩ ?_
      · simp only [go_sem, reduceIte, Nat.reduceLT, Nat.reduceEqDiff, Nat.reduceAdd]
      obtain rfl := Option.some.inj h
      exact lpK_n (((w64 (t_2472 + 1)), f_2492)) rfl (weak_sel [0, 1] (by decide) rfl (by simp only [go_sem, reduceIte, Nat.reduceLT, Nat.reduceEqDiff, Nat.reduceAdd]) (by simp only [go_sem, reduceIte, Nat.reduceLT, Nat.reduceEqDiff, Nat.reduceAdd]))
    · replace h := ite_f h hb
      refine run_exit ?_
      refine thenK_x ?_
      obtain rfl := Option.some.inj h
      have ex_x_2482 := hxx_2486 _ rfl
      subst ex_x_2482
      have h := hj_2484; clear hj_2484
      refine lpK_x ?_
      refine blockK_x ?_
      obtain rfl := Option.some.inj h
      exact joinK_n f_2473 rfl ((weak_sel (l' := [(2, .ref 0 0)]) (σ' := [.box (C1 u8 f_2473.l) false]) [0] (by decide) rfl (by simp only [go_sem, reduceIte, Nat.reduceLT, Nat.reduceEqDiff, Nat.reduceAdd]) (by simp only [go_sem, reduceIte, Nat.reduceLT, Nat.reduceEqDiff, Nat.reduceAdd])).trans (weak_sel [0] (by decide) rfl (by simp only [go_sem, reduceIte, Nat.reduceLT, Nat.reduceEqDiff, Nat.reduceAdd]) (by simp only [go_sem, reduceIte, Nat.reduceLT, Nat.reduceEqDiff, Nat.reduceAdd])))
  rintro f_2461 rfl
  have h := hj_2464; clear hj_2464
  refine run_textE hE [2] (fr' := [(2, .ref 0 0)]) (σ' := [.box (C1 u8 f_2461.l) false]) ⟨_, orcs_nil, ?_⟩ ?_
  · simp only [go_sem, reduceIte, Nat.reduceLT, Nat.reduceEqDiff, Nat.reduceAdd]
  refine run_ret ?_
  obtain rfl := Option.some.inj h
  refine ret_ok (.inr rfl) ?_
  simp only [go_sem, reduceIte, Nat.reduceLT, Nat.reduceEqDiff, Nat.reduceAdd]

end Go.Proofs.YtgdiabbgiiemcaaDoor
/-
  The functions compute just that.
-/
namespace Go.Proofs.YtgdiabbgiiemcaaDoor
open Go.Rv
set_option linter.unusedVariables false
set_option linter.unusedSimpArgs false
set_option maxRecDepth 20000

theorem digest_Sum_con {b_2494 : List UInt8} {r : Arr UInt8 32} (h : digest_Sum b_2494 = some r) : Con B 12 [.sl false (L cU8 b_2494)] [] (fun r' σ' => r' = .agg (C1 u8 r.l) ∧ σ' = []) := by
  refine con_walk (N := 6) (rs := [.cell 2 25]) ok Tryd.func12 rfl (by decide +kernel) rfl rfl (Nat.le_of_ble_eq_true rfl) (fun F => ?_)
  have hE := ok.env F
  unfold digest_Sum at h
  show Run (B.env F) 0 _ ⟨asFr 6 [(0, .sl false (L cU8 b_2494))], []⟩ _
  refine run_textE hE [0, 2] (fr' := [(0, .sl false (L cU8 b_2494)), (2, .ref 0 0)]) (σ' := [.box (C1 u8 ((Arr.rep 32 (0 : UInt8))).l) false]) ⟨_, orcs_nil, ?_⟩ ?_
  · simp only [go_sem, reduceIte, Nat.reduceLT, Nat.reduceEqDiff, Nat.reduceAdd]
  replace h := bind_some1 h; obtain ⟨y_2495, hy_2496, h⟩ := h
  refine run_textE hE [2] (fr' := [(2, .ref 0 0)]) (σ' := [.box (C1 u8 y_2495.l) false, .buf 1 (L (cSl cU8) (([b_2494] : List (List UInt8)))) false]) ⟨_, orcs_ok (l := [(5, 28, [.sl false (L (cSl cU8) (([b_2494] : List (List UInt8))))], .agg (C1 u8 y_2495.l))]) ⟨digest_sum_con  hy_2496, trivial⟩, ?_⟩ ?_
  · simp only [go_sem, reduceIte, Nat.reduceLT, Nat.reduceEqDiff, Nat.reduceAdd, Nat.reduceBEq, Nat.reduceMul, Nat.reduceSub, Nat.reduceGT, Nat.reducePow, Nat.reduceLeDiff, Int.reduceToNat]
  refine run_ret ?_
  obtain rfl := Option.some.inj h
  refine ret_ok (.inr rfl) ?_
  simp only [go_sem, reduceIte, Nat.reduceLT, Nat.reduceEqDiff, Nat.reduceAdd]

theorem r02_Sum_con {b_2497 : List UInt8} {r : Arr UInt8 32} (h : r02_Sum b_2497 = some r) : Con B 13 [.sl false (L cU8 b_2497)] [] (fun r' σ' => r' = .agg (C1 u8 r.l) ∧ σ' = []) := by
  refine con_walk (N := 42) (rs := [.cell 2 25]) ok Tryd.func13 rfl (by decide +kernel) rfl rfl (Nat.le_of_ble_eq_true rfl) (fun F => ?_)
  have hE := ok.env F
  unfold r02_Sum at h
  show Run (B.env F) 0 _ ⟨asFr 42 [(0, .sl false (L cU8 b_2497))], []⟩ _
  refine run_textE hE [0, 2] (fr' := [(0, .sl false (L cU8 b_2497)), (2, .ref 0 0)]) (σ' := [.box (C1 u8 ((Arr.rep 32 (0 : UInt8))).l) false]) ⟨_, orcs_nil, ?_⟩ ?_
  · simp only [go_sem, reduceIte, Nat.reduceLT, Nat.reduceEqDiff, Nat.reduceAdd]
  replace h := lt1_some h; obtain ⟨f_2498, hz_2499, h⟩ := h
  refine run_textE hE [0, 2, 3] (fr' := [(0, .sl false (L cU8 b_2497)), (2, .ref 0 0), (3, .ref 1 0)]) (σ' := [.box (C1 u8 ((Arr.rep 32 (0 : UInt8))).l) false, .box (C1 u32 f_2498.l) false]) ⟨_, orcs_nil, ?_⟩ ?_
  · subst hz_2499; simp only [go_sem, reduceIte, Nat.reduceLT, Nat.reduceEqDiff, Nat.reduceAdd, Nat.reduceGT, C1_rep, C1_nil, C1_cons]
  replace h := bind_some1 h; obtain ⟨y_2500, hy_2501, h⟩ := h
  refine run_textE hE [2, 3, 4] (fr' := [(2, .ref 0 0), (3, .ref 1 0), (4, .sl false (L cU8 y_2500))]) (σ' := [.box (C1 u8 ((Arr.rep 32 (0 : UInt8))).l) false, .box (C1 u32 f_2498.l) false]) ⟨_, orcs_ok (l := [(10, 29, [.sl false (L cU8 b_2497)], .sl false (L cU8 y_2500))]) ⟨r02_padded_con  hy_2501, trivial⟩, ?_⟩ ?_
  · simp only [go_sem, reduceIte, Nat.reduceLT, Nat.reduceEqDiff, Nat.reduceAdd]
  replace h := bind_some1 h; obtain ⟨j_2523, hA_2524, hj_2525⟩ := h
  refine run_join (fun (v : Arr UInt32 8) => (⟨asFr 42 [(2, .ref 0 0), (3, .ref 1 0)], [.box (C1 u8 ((Arr.rep 32 (0 : UInt8))).l) false, .box (C1 u32 v.l) false]⟩ : St)) (fun v => v = j_2523) ?_ ?_
  · have h := hA_2524; clear hA_2524
    refine run_textE hE [2, 3, 4, 5] (fr' := [(2, .ref 0 0), (3, .ref 1 0), (4, .sl false (L cU8 y_2500)), (5, i64 0)]) (σ' := [.box (C1 u8 ((Arr.rep 32 (0 : UInt8))).l) false, .box (C1 u32 f_2498.l) false]) ⟨_, orcs_nil, ?_⟩ ?_
    · simp only [go_sem, reduceIte, Nat.reduceLT, Nat.reduceEqDiff, Nat.reduceAdd]
    refine run_block ?_
    replace h := bind_some1 h; obtain ⟨x_2537, hx_2538, hj_2539⟩ := h
    refine run_loopO hx_2538 (fun (v : Int × Arr UInt32 8) => (⟨asFr 42 [(2, .ref 0 0), (3, .ref 1 0), (4, .sl false (L cU8 y_2500)), (5, i64 v.1)], [.box (C1 u8 ((Arr.rep 32 (0 : UInt8))).l) false, .box (C1 u32 v.2.l) false]⟩ : St)) (weak_sel [0, 1] (by decide) rfl (by simp only [go_sem, reduceIte, Nat.reduceLT, Nat.reduceEqDiff, Nat.reduceAdd]) (by simp only [go_sem, reduceIte, Nat.reduceLT, Nat.reduceEqDiff, Nat.reduceAdd])) ?_
    rintro ⟨at_2530, f_2531⟩ o_2540 h hxx_2541
    replace h : r02_Sum_b1 y_2500 at_2530 f_2531 = some o_2540 := h
    unfold r02_Sum_b1 at h
    refine run_seq ?_
    refine run_textE hE [2, 3, 4, 5, 14] (fr' := [(2, .ref 0 0), (3, .ref 1 0), (4, .sl false (L cU8 y_2500)), (5, i64 at_2530), (14, .bool ((decide (at_2530 < (y_2500.length : Int)))))]) (σ' := [.box (C1 u8 ((Arr.rep 32 (0 : UInt8))).l) false, .box (C1 u32 f_2531.l) false]) ⟨_, orcs_nil, ?_⟩ ?_
    · simp only [go_sem, reduceIte, Nat.reduceLT, Nat.reduceEqDiff, Nat.reduceAdd]
    refine run_condL (b := (decide (at_2530 < (y_2500.length : Int)))) rfl (by decide) (fun hb => ?_) (fun hb => ?_)
    · replace h := ite_t h hb
      refine run_skip ?_
      refine thenK_n ?_
      refine run_seq ?_
      refine run_block ?_
      replace h := chk_some h; obtain ⟨hc_2543, h⟩ := h
      replace h := chk_some h; obtain ⟨hc_2544, h⟩ := h
      replace h := bind_some1 h; obtain ⟨y_2542, hy_2545, h⟩ := h
      refine run_drawE0 hE mixed [[], [], [], [], [3], [1, 2, 3, 4], [0, 1, 2, 3, 4, 5], [0, 1, 2, 3, 4, 5, 6]] (by kernel_rfl) (by kernel_rfl) (wk_block wk_then) [2, 3, 4, 5] (fr' := [(2, .ref 0 0), (3, .ref 1 0), (4, .sl false (L cU8 y_2500)), (5, i64 at_2530)]) (σ' := [.box (C1 u8 ((Arr.rep 32 (0 : UInt8))).l) false, .box (C1 u32 y_2542.l) false]) ⟨_, orcs_ok (l := [(23, 30, [.agg (C1 u32 f_2531.l), .sl false (L cU8 (((y_2500.drop at_2530.toNat).take (((w64 (at_2530 + 64))).toNat - at_2530.toNat))))], .agg (C1 u32 y_2542.l))]) ⟨r02_block_con  hy_2545, trivial⟩, ?_⟩ ?_
      · simp only [go_sem, reduceIte, Nat.reduceLT, Nat.reduceEqDiff, Nat.reduceAdd, Int.reduceToNat, hc_2543, hc_2544]
      refine blockK_n ?_
      refine thenK_n ?_
      refine run_textE0 hE wk_lp [2, 3, 4, 5] (fr' := [(2, .ref 0 0), (3, .ref 1 0), (4, .sl false (L cU8 y_2500)), (5, i64 ((w64 (at_2530 + 64))))]) (σ' := [.box (C1 u8 ((Arr.rep 32 (0 : UInt8))).l) false, .box (C1 u32 y_2542.l) false]) ⟨_, orcs_nil, ?_⟩ ?_
      · simp only [go_sem, reduceIte, Nat.reduceLT, Nat.reduceEqDiff, Nat.reduceAdd]
      obtain rfl := Option.some.inj h
      exact lpK_n (((w64 (at_2530 + 64)), y_2542)) rfl (weak_sel [0, 1] (by decide) rfl (by simp only [go_sem, reduceIte, Nat.reduceLT, Nat.reduceEqDiff, Nat.reduceAdd]) (by simp only [go_sem, reduceIte, Nat.reduceLT, Nat.reduceEqDiff, Nat.reduceAdd]))
    · replace h := ite_f h hb
      refine run_exit ?_
      refine thenK_x ?_
      obtain rfl := Option.some.inj h
      have ex_x_2537 := hxx_2541 _ rfl
      subst ex_x_2537
      have h := hj_2539; clear hj_2539
      refine lpK_x ?_
      refine blockK_x ?_
      obtain rfl := Option.some.inj h
      exact joinK_n f_2531 rfl ((weak_sel (l' := [(2, .ref 0 0), (3, .ref 1 0)]) (σ' := [.box (C1 u8 ((Arr.rep 32 (0 : UInt8))).l) false, .box (C1 u32 f_2531.l) false]) [0, 1] (by decide) rfl (by simp only [go_sem, reduceIte, Nat.reduceLT, Nat.reduceEqDiff, Nat.reduceAdd]) (by simp only [go_sem, reduceIte, Nat.reduceLT, Nat.reduceEqDiff, Nat.reduceAdd])).trans (weak_sel [0, 1] (by decide) rfl (by simp only [go_sem, reduceIte, Nat.reduceLT, Nat.reduceEqDiff, Nat.reduceAdd]) (by simp only [go_sem, reduceIte, Nat.reduceLT, Nat.reduceEqDiff, Nat.reduceAdd])))
  rintro f_2522 rfl
  have h := hj_2525; clear hj_2525
  replace h := lt1_some h; obtain ⟨f_2546, hz_2547, h⟩ := h
  refine run_textE hE [2, 3, 6] (fr' := [(2, .ref 0 0), (3, .ref 1 0), (6, .ref 2 0)]) (σ' := [.box (C1 u8 ((Arr.rep 32 (0 : UInt8))).l) false, .box (C1 u32 f_2522.l) false, .box (C1 u8 f_2546.l) false]) ⟨_, orcs_nil, ?_⟩ ?_
  · subst hz_2547; simp only [go_sem, reduceIte, Nat.reduceLT, Nat.reduceEqDiff, Nat.reduceAdd, Nat.reduceGT, C1_rep, C1_nil, C1_cons]
  replace h := bind_some1 h; obtain ⟨j_2578, hA_2579, hj_2580⟩ := h
  refine run_join (fun (v : Arr UInt8 32) => (⟨asFr 42 [(2, .ref 0 0), (6, .ref 1 0)], [.box (C1 u8 ((Arr.rep 32 (0 : UInt8))).l) false, .box (C1 u8 v.l) false]⟩ : St)) (fun v => v = j_2578) ?_ ?_
  · have h := hA_2579; clear hA_2579
    refine run_textE hE [2, 3, 6, 7] (fr' := [(2, .ref 0 0), (3, .ref 1 0), (6, .ref 2 0), (7, i64 0)]) (σ' := [.box (C1 u8 ((Arr.rep 32 (0 : UInt8))).l) false, .box (C1 u32 f_2522.l) false, .box (C1 u8 f_2546.l) false]) ⟨_, orcs_nil, ?_⟩ ?_
    · simp only [go_sem, reduceIte, Nat.reduceLT, Nat.reduceEqDiff, Nat.reduceAdd]
    refine run_block ?_
    replace h := bind_some1 h; obtain ⟨x_2598, hx_2599, hj_2600⟩ := h
    refine run_loopO hx_2599 (fun (v : Int × Arr UInt8 32) => (⟨asFr 42 [(2, .ref 0 0), (3, .ref 1 0), (6, .ref 2 0), (7, i64 v.1)], [.box (C1 u8 ((Arr.rep 32 (0 : UInt8))).l) false, .box (C1 u32 f_2522.l) false, .box (C1 u8 v.2.l) false]⟩ : St)) (weak_sel [0, 1, 2] (by decide) rfl (by simp only [go_sem, reduceIte, Nat.reduceLT, Nat.reduceEqDiff, Nat.reduceAdd]) (by simp only [go_sem, reduceIte, Nat.reduceLT, Nat.reduceEqDiff, Nat.reduceAdd])) ?_
    rintro ⟨i_2588, f_2589⟩ o_2601 h hxx_2602
    replace h : r02_Sum_b2 f_2522 i_2588 f_2589 = some o_2601 := h
    unfold r02_Sum_b2 at h
    refine run_seq ?_
    refine run_textE hE [2, 3, 6, 7, 26] (fr' := [(2, .ref 0 0), (3, .ref 1 0), (6, .ref 2 0), (7, i64 i_2588), (26, .bool ((decide (i_2588 < 32))))]) (σ' := [.box (C1 u8 ((Arr.rep 32 (0 : UInt8))).l) false, .box (C1 u32 f_2522.l) false, .box (C1 u8 f_2589.l) false]) ⟨_, orcs_nil, ?_⟩ ?_
    · simp only [go_sem, reduceIte, Nat.reduceLT, Nat.reduceEqDiff, Nat.reduceAdd]
    refine run_condL (b := (decide (i_2588 < 32))) rfl (by decide) (fun hb => ?_) (fun hb => ?_)
    · replace h := ite_t h hb
      refine run_skip ?_
      refine thenK_n ?_
      refine run_seq ?_
      refine run_block ?_
      have hk_2603 : ¬(4 : Int) = 0 := by decide
      replace h := chk_some h; obtain ⟨hc_2604, h⟩ := h
      have hk_2605 : ¬(4 : Int) = 0 := by decide
      replace h := chk_some h; obtain ⟨hc_2606, h⟩ := h
      replace h := chk_some h; obtain ⟨hc_2607, h⟩ := h
      replace h := lt1_some h; obtain ⟨f_2608, hz_2609, h⟩ := h
      refine run_textE0 hE (wk_block wk_then) [2, 3, 6, 7] (fr' := [(2, .ref 0 0), (3, .ref 1 0), (6, .ref 2 0), (7, i64 i_2588)]) (σ' := [.box (C1 u8 ((Arr.rep 32 (0 : UInt8))).l) false, .box (C1 u32 f_2522.l) false, .box (C1 u8 f_2608.l) false]) ⟨_, orcs_nil, ?_⟩ ?_
      · subst hz_2609; simp only [go_sem, reduceIte, Nat.reduceLT, Nat.reduceEqDiff, Nat.reduceAdd, Int.reduceToNat, Nat.reduceLeDiff, hk_2603, hc_2604, hc_2604.2, lt_le hc_2604.2, hk_2605, hc_2606, hc_2607, hc_2607.2, lt_le hc_2607.2]
      refine blockK_n ?_
      refine thenK_n ?_
      refine run_textE0 hE wk_lp [2, 3, 6, 7] (fr' := [(2, .ref 0 0), (3, .ref 1 0), (6, .ref 2 0), (7, i64 ((w64 (i_2588 + 1))))]) (σ' := [.box (C1 u8 ((Arr.rep 32 (0 : UInt8))).l) false, .box (C1 u32 f_2522.l) false, .box (C1 u8 f_2608.l) false]) ⟨_, orcs_nil, ?_⟩ ?_
      · simp only [go_sem, reduceIte, Nat.reduceLT, Nat.reduceEqDiff, Nat.reduceAdd]
      obtain rfl := Option.some.inj h
      exact lpK_n (((w64 (i_2588 + 1)), f_2608)) rfl (weak_sel [0, 1, 2] (by decide) rfl (by simp only [go_sem, reduceIte, Nat.reduceLT, Nat.reduceEqDiff, Nat.reduceAdd]) (by simp only [go_sem, reduceIte, Nat.reduceLT, Nat.reduceEqDiff, Nat.reduceAdd]))
    · replace h := ite_f h hb
      refine run_exit ?_
      refine thenK_x ?_
      obtain rfl := Option.some.inj h
      have ex_x_2598 := hxx_2602 _ rfl
      subst ex_x_2598
      have h := hj_2600; clear hj_2600
      refine lpK_x ?_
      refine blockK_x ?_
      obtain rfl := Option.some.inj h
      exact joinK_n f_2589 rfl ((weak_sel (l' := [(2, .ref 0 0), (6, .ref 1 0)]) (σ' := [.box (C1 u8 ((Arr.rep 32 (0 : UInt8))).l) false, .box (C1 u8 f_2589.l) false]) [0, 2] (by decide) rfl (by simp only [go_sem, reduceIte, Nat.reduceLT, Nat.reduceEqDiff, Nat.reduceAdd]) (by simp only [go_sem, reduceIte, Nat.reduceLT, Nat.reduceEqDiff, Nat.reduceAdd])).trans (weak_sel [0, 1] (by decide) rfl (by simp only [go_sem, reduceIte, Nat.reduceLT, Nat.reduceEqDiff, Nat.reduceAdd]) (by simp only [go_sem, reduceIte, Nat.reduceLT, Nat.reduceEqDiff, Nat.reduceAdd])))
  rintro f_2577 rfl
  have h := hj_2580; clear hj_2580
  refine run_textE hE [2] (fr' := [(2, .ref 0 0)]) (σ' := [.box (C1 u8 f_2577.l) false, .box (C1 u8 f_2577.l) false]) ⟨_, orcs_nil, ?_⟩ ?_
  · simp only [go_sem, reduceIte, Nat.reduceLT, Nat.reduceEqDiff, Nat.reduceAdd]
  refine run_ret ?_
  obtain rfl := Option.some.inj h
  refine ret_ok (.inr rfl) ?_
  simp only [go_sem, reduceIte, Nat.reduceLT, Nat.reduceEqDiff, Nat.reduceAdd]

theorem digest_Tagged_con {tag_2610 : List UInt8} {b_2611 : List UInt8} {r : Arr UInt8 32} (h : digest_Tagged tag_2610 b_2611 = some r) : Con B 14 [.str tag_2610, .sl false (L cU8 b_2611)] [] (fun r' σ' => r' = .agg (C1 u8 r.l) ∧ σ' = []) := by
  refine con_walk (N := 19) (rs := [.cell 4 25]) ok Tryd.func14 rfl (by decide +kernel) rfl rfl (Nat.le_of_ble_eq_true rfl) (fun F => ?_)
  have hE := ok.env F
  unfold digest_Tagged at h
  show Run (B.env F) 0 _ ⟨asFr 19 [(0, .str tag_2610), (1, .sl false (L cU8 b_2611))], []⟩ _
  refine run_textE hE [0, 1, 4] (fr' := [(0, .str tag_2610), (1, .sl false (L cU8 b_2611)), (4, .ref 0 0)]) (σ' := [.box (C1 u8 ((Arr.rep 32 (0 : UInt8))).l) false]) ⟨_, orcs_nil, ?_⟩ ?_
  · simp only [go_sem, reduceIte, Nat.reduceLT, Nat.reduceEqDiff, Nat.reduceAdd]
  replace h := chk_some h; obtain ⟨hc_2612, h⟩ := h
  replace h := lt1_some h; obtain ⟨tag_2613, hz_2614, h⟩ := h
  refine run_textE hE [0, 1, 4] (fr' := [(0, .str tag_2613), (1, .sl false (L cU8 b_2611)), (4, .ref 0 0)]) (σ' := [.box (C1 u8 ((Arr.rep 32 (0 : UInt8))).l) false]) ⟨_, orcs_nil, ?_⟩ ?_
  · subst hz_2614; simp only [go_sem, reduceIte, Nat.reduceLT, Nat.reduceEqDiff, Nat.reduceAdd, Int.reduceToNat, hc_2612]
  replace h := bind_some1 h; obtain ⟨y_2615, hy_2616, h⟩ := h
  refine run_textE hE [4] (fr' := [(4, .ref 0 0)]) (σ' := [.box (C1 u8 y_2615.l) false, .buf 1 (L cU8 (([(UInt8.ofInt ((tag_2613.length : Int)))] : List UInt8))) true, .buf 1 (L cU8 tag_2613) true, .buf 1 (L (cSl cU8) (([([(UInt8.ofInt ((tag_2613.length : Int)))] : List UInt8), tag_2613, b_2611] : List (List UInt8)))) false]) ⟨_, orcs_ok (l := [(18, 28, [.sl false (L (cSl cU8) (([([(UInt8.ofInt ((tag_2613.length : Int)))] : List UInt8), tag_2613, b_2611] : List (List UInt8))))], .agg (C1 u8 y_2615.l))]) ⟨digest_sum_con  hy_2616, trivial⟩, ?_⟩ ?_
  · simp only [go_sem, reduceIte, Nat.reduceLT, Nat.reduceEqDiff, Nat.reduceAdd, Nat.reduceBEq, Nat.reduceMul, Nat.reduceSub, Nat.reduceGT, Nat.reducePow, Nat.reduceLeDiff, Int.reduceToNat]
  refine run_ret ?_
  obtain rfl := Option.some.inj h
  refine ret_ok (.inr rfl) ?_
  simp only [go_sem, reduceIte, Nat.reduceLT, Nat.reduceEqDiff, Nat.reduceAdd]

theorem r02_Hashed_con {tag_2617 : List UInt8} {b_2618 : List UInt8} {r : List UInt8} (h : r02_Hashed tag_2617 b_2618 = some r) : Con B 20 [.str tag_2617, .sl false (L cU8 b_2618)] [] (fun r' σ' => r' = .sl false (L cU8 r) ∧ σ' = []) := by
  refine con_walk (N := 23) (rs := [.tmp 4]) ok Tryd.func20 rfl (by decide +kernel) rfl rfl (Nat.le_of_ble_eq_true rfl) (fun F => ?_)
  have hE := ok.env F
  unfold r02_Hashed at h
  show Run (B.env F) 0 _ ⟨asFr 23 [(0, .str tag_2617), (1, .sl false (L cU8 b_2618))], []⟩ _
  refine run_textE hE [0, 1] (fr' := [(0, .str tag_2617), (1, .sl false (L cU8 b_2618))]) (σ' := []) ⟨_, orcs_nil, ?_⟩ ?_
  · simp only [go_sem, reduceIte, Nat.reduceLT, Nat.reduceEqDiff, Nat.reduceAdd]
  replace h := chk_some h; obtain ⟨hc_2619, h⟩ := h
  replace h := lt1_some h; obtain ⟨t_2620, hz_2621, h⟩ := h
  refine run_textE hE [1, 5] (fr' := [(1, .sl false (L cU8 b_2618)), (5, .str t_2620)]) (σ' := []) ⟨_, orcs_nil, ?_⟩ ?_
  · subst hz_2621; simp only [go_sem, reduceIte, Nat.reduceLT, Nat.reduceEqDiff, Nat.reduceAdd, Int.reduceToNat, hc_2619]
  replace h := lt1_some h; obtain ⟨l_2622, hz_2623, h⟩ := h
  refine run_textE hE [1, 5, 6] (fr' := [(1, .sl false (L cU8 b_2618)), (5, .str t_2620), (6, .bs true 0 (l_2622.length) 0 (l_2622.length))]) (σ' := [.buf 1 (L cU8 l_2622) false]) ⟨_, orcs_nil, ?_⟩ ?_
  · subst hz_2623; simp only [go_sem, reduceIte, Nat.reduceLT, Nat.reduceEqDiff, Nat.reduceAdd, Nat.reduceBEq, Nat.reduceMul, Nat.reduceSub, Nat.reduceGT, Nat.reducePow, Nat.reduceLeDiff, Int.reduceToNat]
  replace h := chk_some h; obtain ⟨hc_2624, h⟩ := h
  replace h := lt1_some h; obtain ⟨l_2625, hz_2626, h⟩ := h
  refine run_textE hE [1, 6] (fr' := [(1, .sl false (L cU8 b_2618)), (6, .bs false 0 (l_2625.length) 0 (l_2625.length))]) (σ' := [.buf 1 (L cU8 l_2625) false, .buf 1 (L cU8 t_2620) false]) ⟨_, orcs_nil, ?_⟩ ?_
  · subst hz_2626; simp only [go_sem, reduceIte, Nat.reduceLT, Nat.reduceEqDiff, Nat.reduceAdd, hc_2624]
  replace h := chk_some h; obtain ⟨hc_2627, h⟩ := h
  replace h := lt1_some h; obtain ⟨l_2628, hz_2629, h⟩ := h
  refine run_textE hE [4] (fr' := [(4, .bs false 0 (l_2628.length) 0 (l_2628.length))]) (σ' := [.buf 1 (L cU8 l_2628) false, .buf 1 (L cU8 t_2620) false]) ⟨_, orcs_nil, ?_⟩ ?_
  · subst hz_2629; simp only [go_sem, reduceIte, Nat.reduceLT, Nat.reduceEqDiff, Nat.reduceAdd, hc_2627]
  refine run_ret ?_
  obtain rfl := Option.some.inj h
  refine ret_ok (.inr rfl) ?_
  simp only [go_sem, reduceIte, Nat.reduceLT, Nat.reduceEqDiff, Nat.reduceAdd]

theorem r02_Tagged_con {tag_2630 : List UInt8} {b_2631 : List UInt8} {r : Arr UInt8 32} (h : r02_Tagged tag_2630 b_2631 = some r) : Con B 15 [.str tag_2630, .sl false (L cU8 b_2631)] [] (fun r' σ' => r' = .agg (C1 u8 r.l) ∧ σ' = []) := by
  refine con_walk (N := 9) (rs := [.cell 4 25]) ok Tryd.func15 rfl (by decide +kernel) rfl rfl (Nat.le_of_ble_eq_true rfl) (fun F => ?_)
  have hE := ok.env F
  unfold r02_Tagged at h
  show Run (B.env F) 0 _ ⟨asFr 9 [(0, .str tag_2630), (1, .sl false (L cU8 b_2631))], []⟩ _
  refine run_textE hE [0, 1, 4] (fr' := [(0, .str tag_2630), (1, .sl false (L cU8 b_2631)), (4, .ref 0 0)]) (σ' := [.box (C1 u8 ((Arr.rep 32 (0 : UInt8))).l) false]) ⟨_, orcs_nil, ?_⟩ ?_
  · simp only [go_sem, reduceIte, Nat.reduceLT, Nat.reduceEqDiff, Nat.reduceAdd]
  replace h := bind_some1 h; obtain ⟨y_2632, hy_2634, h⟩ := h
  replace h := bind_some1 h; obtain ⟨y_2633, hy_2635, h⟩ := h
  refine run_textE hE [4] (fr' := [(4, .ref 0 0)]) (σ' := [.box (C1 u8 y_2633.l) false]) ⟨_, orcs_ok (l := [(7, 20, [.str tag_2630, .sl false (L cU8 b_2631)], .sl false (L cU8 y_2632)), (8, 13, [.sl false (L cU8 y_2632)], .agg (C1 u8 y_2633.l))]) ⟨r02_Hashed_con  hy_2634, r02_Sum_con  hy_2635, trivial⟩, ?_⟩ ?_
  · simp only [go_sem, reduceIte, Nat.reduceLT, Nat.reduceEqDiff, Nat.reduceAdd]
  refine run_ret ?_
  obtain rfl := Option.some.inj h
  refine ret_ok (.inr rfl) ?_
  simp only [go_sem, reduceIte, Nat.reduceLT, Nat.reduceEqDiff, Nat.reduceAdd]

theorem digest_Next_con {d_2636 : Arr UInt8 32} {b_2637 : List UInt8} {r : Arr UInt8 32} (h : digest_Next d_2636 b_2637 = some r) : Con B 16 [.agg (C1 u8 d_2636.l), .sl false (L cU8 b_2637)] [] (fun r' σ' => r' = .agg (C1 u8 r.l) ∧ σ' = []) := by
  refine con_walk (N := 12) (rs := [.cell 4 25]) ok Tryd.func16 rfl (by decide +kernel) rfl rfl (Nat.le_of_ble_eq_true rfl) (fun F => ?_)
  have hE := ok.env F
  unfold digest_Next at h
  show Run (B.env F) 0 _ ⟨asFr 12 [(0, .agg (C1 u8 d_2636.l)), (1, .sl false (L cU8 b_2637))], []⟩ _
  refine run_textE hE [1, 2, 4] (fr' := [(1, .sl false (L cU8 b_2637)), (2, .ref 0 0), (4, .ref 1 0)]) (σ' := [.box (C1 u8 d_2636.l) false, .box (C1 u8 ((Arr.rep 32 (0 : UInt8))).l) false]) ⟨_, orcs_nil, ?_⟩ ?_
  · simp only [go_sem, reduceIte, Nat.reduceLT, Nat.reduceEqDiff, Nat.reduceAdd]
  replace h := bind_some1 h; obtain ⟨y_2638, hy_2639, h⟩ := h
  refine run_textE hE [4] (fr' := [(4, .ref 1 0)]) (σ' := [.box (C1 u8 d_2636.l) true, .box (C1 u8 y_2638.l) false, .buf 1 (L cU8 (([(4 : UInt8)] : List UInt8))) true, .buf 1 (L cU8 (([(110 : UInt8), (101 : UInt8), (120 : UInt8), (116 : UInt8)] : List UInt8))) true, .buf 1 (L (cSl cU8) (([([(4 : UInt8)] : List UInt8), ([(110 : UInt8), (101 : UInt8), (120 : UInt8), (116 : UInt8)] : List UInt8), d_2636.l, b_2637] : List (List UInt8)))) false]) ⟨_, orcs_ok (l := [(11, 28, [.sl false (L (cSl cU8) (([([(4 : UInt8)] : List UInt8), ([(110 : UInt8), (101 : UInt8), (120 : UInt8), (116 : UInt8)] : List UInt8), d_2636.l, b_2637] : List (List UInt8))))], .agg (C1 u8 y_2638.l))]) ⟨digest_sum_con  hy_2639, trivial⟩, ?_⟩ ?_
  · simp only [go_sem, reduceIte, Nat.reduceLT, Nat.reduceEqDiff, Nat.reduceAdd, Nat.reduceBEq, Nat.reduceMul, Nat.reduceSub, Nat.reduceGT, Nat.reducePow, Nat.reduceLeDiff, Int.reduceToNat]
  refine run_ret ?_
  obtain rfl := Option.some.inj h
  refine ret_ok (.inr rfl) ?_
  simp only [go_sem, reduceIte, Nat.reduceLT, Nat.reduceEqDiff, Nat.reduceAdd]

theorem r02_Next_con {d_2640 : Arr UInt8 32} {b_2641 : List UInt8} {r : Arr UInt8 32} (h : r02_Next d_2640 b_2641 = some r) : Con B 17 [.agg (C1 u8 d_2640.l), .sl false (L cU8 b_2641)] [] (fun r' σ' => r' = .agg (C1 u8 r.l) ∧ σ' = []) := by
  refine con_walk (N := 15) (rs := [.cell 4 25]) ok Tryd.func17 rfl (by decide +kernel) rfl rfl (Nat.le_of_ble_eq_true rfl) (fun F => ?_)
  have hE := ok.env F
  unfold r02_Next at h
  show Run (B.env F) 0 _ ⟨asFr 15 [(0, .agg (C1 u8 d_2640.l)), (1, .sl false (L cU8 b_2641))], []⟩ _
  refine run_textE hE [1, 2, 4] (fr' := [(1, .sl false (L cU8 b_2641)), (2, .ref 0 0), (4, .ref 1 0)]) (σ' := [.box (C1 u8 d_2640.l) false, .box (C1 u8 ((Arr.rep 32 (0 : UInt8))).l) false]) ⟨_, orcs_nil, ?_⟩ ?_
  · simp only [go_sem, reduceIte, Nat.reduceLT, Nat.reduceEqDiff, Nat.reduceAdd]
  replace h := lt1_some h; obtain ⟨l_2642, hz_2643, h⟩ := h
  refine run_textE hE [1, 2, 4, 5] (fr' := [(1, .sl false (L cU8 b_2641)), (2, .ref 0 0), (4, .ref 1 0), (5, .bs true 2 (l_2642.length) 0 (l_2642.length))]) (σ' := [.box (C1 u8 d_2640.l) false, .box (C1 u8 ((Arr.rep 32 (0 : UInt8))).l) false, .buf 1 (L cU8 l_2642) false]) ⟨_, orcs_nil, ?_⟩ ?_
  · subst hz_2643; simp only [go_sem, reduceIte, Nat.reduceLT, Nat.reduceEqDiff, Nat.reduceAdd, Nat.reduceBEq, Nat.reduceMul, Nat.reduceSub, Nat.reduceGT, Nat.reducePow, Nat.reduceLeDiff, Int.reduceToNat]
  replace h := chk_some h; obtain ⟨hc_2644, h⟩ := h
  replace h := lt1_some h; obtain ⟨l_2645, hz_2646, h⟩ := h
  refine run_textE hE [1, 4, 5] (fr' := [(1, .sl false (L cU8 b_2641)), (4, .ref 1 0), (5, .bs false 2 (l_2645.length) 0 (l_2645.length))]) (σ' := [.box (C1 u8 d_2640.l) true, .box (C1 u8 ((Arr.rep 32 (0 : UInt8))).l) false, .buf 1 (L cU8 l_2645) false]) ⟨_, orcs_nil, ?_⟩ ?_
  · subst hz_2646; simp only [go_sem, reduceIte, Nat.reduceLT, Nat.reduceEqDiff, Nat.reduceAdd, Int.reduceToNat, hc_2644]
  replace h := chk_some h; obtain ⟨hc_2647, h⟩ := h
  replace h := lt1_some h; obtain ⟨l_2648, hz_2649, h⟩ := h
  refine run_textE hE [4, 5] (fr' := [(4, .ref 1 0), (5, .bs false 2 (l_2648.length) 0 (l_2648.length))]) (σ' := [.box (C1 u8 d_2640.l) true, .box (C1 u8 ((Arr.rep 32 (0 : UInt8))).l) false, .buf 1 (L cU8 l_2648) false]) ⟨_, orcs_nil, ?_⟩ ?_
  · subst hz_2649; simp only [go_sem, reduceIte, Nat.reduceLT, Nat.reduceEqDiff, Nat.reduceAdd, hc_2647]
  replace h := bind_some1 h; obtain ⟨y_2650, hy_2651, h⟩ := h
  refine run_textE hE [4] (fr' := [(4, .ref 1 0)]) (σ' := [.box (C1 u8 d_2640.l) true, .box (C1 u8 y_2650.l) false, .buf 1 (L cU8 l_2648) false]) ⟨_, orcs_ok (l := [(14, 15, [.str (([110, 101, 120, 116] : List UInt8)), .sl false (L cU8 l_2648)], .agg (C1 u8 y_2650.l))]) ⟨r02_Tagged_con  hy_2651, trivial⟩, ?_⟩ ?_
  · simp only [go_sem, reduceIte, Nat.reduceLT, Nat.reduceEqDiff, Nat.reduceAdd]
  refine run_ret ?_
  obtain rfl := Option.some.inj h
  refine ret_ok (.inr rfl) ?_
  simp only [go_sem, reduceIte, Nat.reduceLT, Nat.reduceEqDiff, Nat.reduceAdd]

end Go.Proofs.YtgdiabbgiiemcaaDoor
