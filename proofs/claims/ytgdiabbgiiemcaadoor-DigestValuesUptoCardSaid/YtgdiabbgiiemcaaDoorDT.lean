/-
  Types, and rules for the operations at them.
-/
import Derived.Test.YtgdiabbgiiemcaaDoorProg
import Derived.Test.YtgdiabbgiiemcaaDoorR28
namespace Go.Proofs.YtgdiabbgiiemcaaDoor
open Go.Rv
set_option linter.unusedVariables false
set_option linter.unusedSimpArgs false
set_option maxRecDepth 20000

def glob0 : Arr UInt32 64 := ⟨[1116352408, 1899447441, 3049323471, 3921009573, 961987163, 1508970993, 2453635748, 2870763221, 3624381080, 310598401, 607225278, 1426881987, 1925078388, 2162078206, 2614888103, 3248222580, 3835390401, 4022224774, 264347078, 604807628, 770255983, 1249150122, 1555081692, 1996064986, 2554220882, 2821834349, 2952996808, 3210313671, 3336571891, 3584528711, 113926993, 338241895, 666307205, 773529912, 1294757372, 1396182291, 1695183700, 1986661051, 2177026350, 2456956037, 2730485921, 2820302411, 3259730800, 3345764771, 3516065817, 3600352804, 4094571909, 275423344, 430227734, 506948616, 659060556, 883997877, 958139571, 1322822218, 1537002063, 1747873779, 1955562222, 2024104815, 2227730452, 2361852424, 2428436474, 2756734187, 3204031479, 3329325298], rfl⟩
noncomputable def B : Base := baseOwn Tryd.prog (fun i => if i = 0 then some (C1 u32 glob0.l) else none) (fun f => [32, 40].contains f)
theorem ok : B.Ok := baseOwn_ok _ _ _
theorem own3 (F : Addr → Prop) : (B.env F).own 3 = false := rfl
attribute [go_sem] own3
theorem own4 (F : Addr → Prop) : (B.env F).own 4 = false := rfl
attribute [go_sem] own4
theorem own5 (F : Addr → Prop) : (B.env F).own 5 = false := rfl
attribute [go_sem] own5
theorem own6 (F : Addr → Prop) : (B.env F).own 6 = false := rfl
attribute [go_sem] own6
theorem own7 (F : Addr → Prop) : (B.env F).own 7 = false := rfl
attribute [go_sem] own7
theorem own8 (F : Addr → Prop) : (B.env F).own 8 = false := rfl
attribute [go_sem] own8
theorem own9 (F : Addr → Prop) : (B.env F).own 9 = false := rfl
attribute [go_sem] own9
theorem own11 (F : Addr → Prop) : (B.env F).own 11 = false := rfl
attribute [go_sem] own11
theorem own12 (F : Addr → Prop) : (B.env F).own 12 = false := rfl
attribute [go_sem] own12
theorem own13 (F : Addr → Prop) : (B.env F).own 13 = false := rfl
attribute [go_sem] own13
theorem own14 (F : Addr → Prop) : (B.env F).own 14 = false := rfl
attribute [go_sem] own14
theorem own15 (F : Addr → Prop) : (B.env F).own 15 = false := rfl
attribute [go_sem] own15
theorem own16 (F : Addr → Prop) : (B.env F).own 16 = false := rfl
attribute [go_sem] own16
theorem own17 (F : Addr → Prop) : (B.env F).own 17 = false := rfl
attribute [go_sem] own17
theorem own18 (F : Addr → Prop) : (B.env F).own 18 = false := rfl
attribute [go_sem] own18
theorem own19 (F : Addr → Prop) : (B.env F).own 19 = false := rfl
attribute [go_sem] own19
theorem own20 (F : Addr → Prop) : (B.env F).own 20 = false := rfl
attribute [go_sem] own20
theorem own21 (F : Addr → Prop) : (B.env F).own 21 = false := rfl
attribute [go_sem] own21
theorem own22 (F : Addr → Prop) : (B.env F).own 22 = false := rfl
attribute [go_sem] own22
theorem own23 (F : Addr → Prop) : (B.env F).own 23 = false := rfl
attribute [go_sem] own23
theorem own24 (F : Addr → Prop) : (B.env F).own 24 = false := rfl
attribute [go_sem] own24
theorem own25 (F : Addr → Prop) : (B.env F).own 25 = false := rfl
attribute [go_sem] own25
theorem own27 (F : Addr → Prop) : (B.env F).own 27 = false := rfl
attribute [go_sem] own27
theorem own28 (F : Addr → Prop) : (B.env F).own 28 = false := rfl
attribute [go_sem] own28
theorem own29 (F : Addr → Prop) : (B.env F).own 29 = false := rfl
attribute [go_sem] own29
theorem own30 (F : Addr → Prop) : (B.env F).own 30 = false := rfl
attribute [go_sem] own30
theorem own31 (F : Addr → Prop) : (B.env F).own 31 = false := rfl
attribute [go_sem] own31
theorem own32 (F : Addr → Prop) : (B.env F).own 32 = true := rfl
attribute [go_sem] own32
theorem own36 (F : Addr → Prop) : (B.env F).own 36 = false := rfl
attribute [go_sem] own36
theorem own37 (F : Addr → Prop) : (B.env F).own 37 = false := rfl
attribute [go_sem] own37
theorem own38 (F : Addr → Prop) : (B.env F).own 38 = false := rfl
attribute [go_sem] own38
theorem own39 (F : Addr → Prop) : (B.env F).own 39 = false := rfl
attribute [go_sem] own39
theorem own40 (F : Addr → Prop) : (B.env F).own 40 = true := rfl
attribute [go_sem] own40
theorem own43 (F : Addr → Prop) : (B.env F).own 43 = false := rfl
attribute [go_sem] own43
theorem own44 (F : Addr → Prop) : (B.env F).own 44 = false := rfl
attribute [go_sem] own44
theorem mixed : Tryd.prog.follows .mixedOrders = true := by kernel_rfl

inductive Api_Value where
  | mk (Kind : Int) (N : Int) (B : List UInt8) (L : List Api_Value)
instance : Inhabited Api_Value := ⟨.mk default default default default⟩
def Api_Value.Kind (x : Api_Value) : Int := match x with
  | .mk a _ _ _ => a
theorem Api_Value_Kind {x0 : Int} {x1 : Int} {x2 : List UInt8} {x3 : List Api_Value} : (Api_Value.mk x0 x1 x2 x3).Kind = x0 := rfl
attribute [go_sem] Api_Value_Kind
def Api_Value.N (x : Api_Value) : Int := match x with
  | .mk _ a _ _ => a
theorem Api_Value_N {x0 : Int} {x1 : Int} {x2 : List UInt8} {x3 : List Api_Value} : (Api_Value.mk x0 x1 x2 x3).N = x1 := rfl
attribute [go_sem] Api_Value_N
def Api_Value.B (x : Api_Value) : List UInt8 := match x with
  | .mk _ _ a _ => a
theorem Api_Value_B {x0 : Int} {x1 : Int} {x2 : List UInt8} {x3 : List Api_Value} : (Api_Value.mk x0 x1 x2 x3).B = x2 := rfl
attribute [go_sem] Api_Value_B
def Api_Value.L (x : Api_Value) : List Api_Value := match x with
  | .mk _ _ _ a => a
theorem Api_Value_L {x0 : Int} {x1 : Int} {x2 : List UInt8} {x3 : List Api_Value} : (Api_Value.mk x0 x1 x2 x3).L = x3 := rfl
attribute [go_sem] Api_Value_L
noncomputable def cApi_Value (v : Api_Value) : List AV := Api_Value.rec (motive_1 := fun _ => List AV) (motive_2 := fun _ => List (List AV)) (fun Kind_ N_ B_ L_ ih3 => [i64 Kind_, i64 N_, .sl false (L cU8 B_), .sl false ih3]) [] (fun _ _ x l => x :: l) v
theorem cApi_Value_l (l : List Api_Value) : Api_Value.rec_1 (motive_1 := fun _ => List AV) (motive_2 := fun _ => List (List AV)) (fun Kind_ N_ B_ L_ ih3 => [i64 Kind_, i64 N_, .sl false (L cU8 B_), .sl false ih3]) [] (fun _ _ x l => x :: l) l = L cApi_Value l := by
  induction l with
  | nil => rfl
  | cons x l ih => exact congrArg (cApi_Value x :: ·) ih
theorem cApi_Value_eq (x : Api_Value) : cApi_Value x = [i64 x.Kind, i64 x.N, .sl false (L cU8 x.B), .sl false (L cApi_Value x.L)] := by
  cases x with
  | mk a0 a1 a2 a3 =>
    show [i64 a0, i64 a1, .sl false (L cU8 a2), .sl false (Api_Value.rec_1 (motive_1 := fun _ => List AV) (motive_2 := fun _ => List (List AV)) (fun Kind_ N_ B_ L_ ih3 => [i64 Kind_, i64 N_, .sl false (L cU8 B_), .sl false ih3]) [] (fun _ _ x l => x :: l) a3)] = _
    rw [cApi_Value_l]; rfl
attribute [go_sem] cApi_Value_eq
theorem tt3 : tabOf Tryd.prog 3 = some ⟨.int .i64, 1, 8, [i64 0]⟩ := by kernel_rfl
theorem tb3 (F : Addr → Prop) : (B.env F).tab 3 = some ⟨.int .i64, 1, 8, [i64 0]⟩ := tt3
attribute [go_sem] tb3
theorem tt4 : tabOf Tryd.prog 4 = some ⟨.bool, 1, 1, [.bool false]⟩ := by kernel_rfl
theorem tb4 (F : Addr → Prop) : (B.env F).tab 4 = some ⟨.bool, 1, 1, [.bool false]⟩ := tt4
attribute [go_sem] tb4
theorem tt5 : tabOf Tryd.prog 5 = some ⟨.int .u8, 1, 1, [u8 ((0 : UInt8))]⟩ := by kernel_rfl
theorem tb5 (F : Addr → Prop) : (B.env F).tab 5 = some ⟨.int .u8, 1, 1, [u8 ((0 : UInt8))]⟩ := tt5
attribute [go_sem] tb5
theorem tt9 : tabOf Tryd.prog 9 = some ⟨.string, 1, 16, [.str (([] : List UInt8))]⟩ := by kernel_rfl
theorem tb9 (F : Addr → Prop) : (B.env F).tab 9 = some ⟨.string, 1, 16, [.str (([] : List UInt8))]⟩ := tt9
attribute [go_sem] tb9
theorem tt22 : tabOf Tryd.prog 22 = some ⟨.slice 5, 1, 24, [.sl true (L cU8 ([]))]⟩ := by kernel_rfl
theorem tb22 (F : Addr → Prop) : (B.env F).tab 22 = some ⟨.slice 5, 1, 24, [.sl true (L cU8 ([]))]⟩ := tt22
attribute [go_sem] tb22
theorem tt25 : tabOf Tryd.prog 25 = some ⟨.array 32 5, 32, 32, (C1 u8 ((Arr.rep 32 (0 : UInt8))).l)⟩ := by kernel_rfl
theorem tb25 (F : Addr → Prop) : (B.env F).tab 25 = some ⟨.array 32 5, 32, 32, (C1 u8 ((Arr.rep 32 (0 : UInt8))).l)⟩ := tt25
attribute [go_sem] tb25
theorem tt30 : tabOf Tryd.prog 30 = some ⟨.int .u64, 1, 8, [u64 ((0 : UInt64))]⟩ := by kernel_rfl
theorem tb30 (F : Addr → Prop) : (B.env F).tab 30 = some ⟨.int .u64, 1, 8, [u64 ((0 : UInt64))]⟩ := tt30
attribute [go_sem] tb30
theorem tt36 : tabOf Tryd.prog 36 = some ⟨.slice 38, 1, 24, [.sl true (L cApi_Value ([]))]⟩ := by kernel_rfl
theorem tb36 (F : Addr → Prop) : (B.env F).tab 36 = some ⟨.slice 38, 1, 24, [.sl true (L cApi_Value ([]))]⟩ := tt36
attribute [go_sem] tb36
theorem tt38 : tabOf Tryd.prog 38 = some ⟨.struct #[⟨"Kind", 3, 0, false, "", "", 0⟩, ⟨"N", 3, 1, false, "", "", 8⟩, ⟨"B", 22, 2, false, "", "", 16⟩, ⟨"L", 36, 3, false, "", "", 40⟩], 4, 64, [i64 0, i64 0, .sl true (L cU8 ([])), .sl true (L cApi_Value ([]))]⟩ := by kernel_rfl
theorem tb38 (F : Addr → Prop) : (B.env F).tab 38 = some ⟨.struct #[⟨"Kind", 3, 0, false, "", "", 0⟩, ⟨"N", 3, 1, false, "", "", 8⟩, ⟨"B", 22, 2, false, "", "", 16⟩, ⟨"L", 36, 3, false, "", "", 40⟩], 4, 64, [i64 0, i64 0, .sl true (L cU8 ([])), .sl true (L cApi_Value ([]))]⟩ := tt38
attribute [go_sem] tb38
theorem tt39 : tabOf Tryd.prog 39 = some ⟨.int .i64, 1, 8, [i64 0]⟩ := by kernel_rfl
theorem tb39 (F : Addr → Prop) : (B.env F).tab 39 = some ⟨.int .i64, 1, 8, [i64 0]⟩ := tt39
attribute [go_sem] tb39
theorem tt45 : tabOf Tryd.prog 45 = some ⟨.slice 22, 1, 24, [.sl true (L (cSl cU8) ([]))]⟩ := by kernel_rfl
theorem tb45 (F : Addr → Prop) : (B.env F).tab 45 = some ⟨.slice 22, 1, 24, [.sl true (L (cSl cU8) ([]))]⟩ := tt45
attribute [go_sem] tb45
theorem tt47 : tabOf Tryd.prog 47 = some ⟨.slice 25, 1, 24, [.sl true (L (cArr u8 32) ([]))]⟩ := by kernel_rfl
theorem tb47 (F : Addr → Prop) : (B.env F).tab 47 = some ⟨.slice 25, 1, 24, [.sl true (L (cArr u8 32) ([]))]⟩ := tt47
attribute [go_sem] tb47
theorem tt55 : tabOf Tryd.prog 55 = some ⟨.int .u32, 1, 4, [u32 ((0 : UInt32))]⟩ := by kernel_rfl
theorem tb55 (F : Addr → Prop) : (B.env F).tab 55 = some ⟨.int .u32, 1, 4, [u32 ((0 : UInt32))]⟩ := tt55
attribute [go_sem] tb55
theorem tt56 : tabOf Tryd.prog 56 = some ⟨.array 8 55, 8, 32, (C1 u32 ((Arr.rep 8 (0 : UInt32))).l)⟩ := by kernel_rfl
theorem tb56 (F : Addr → Prop) : (B.env F).tab 56 = some ⟨.array 8 55, 8, 32, (C1 u32 ((Arr.rep 8 (0 : UInt32))).l)⟩ := tt56
attribute [go_sem] tb56
theorem tt59 : tabOf Tryd.prog 59 = some ⟨.int .u64, 1, 8, [u64 ((0 : UInt64))]⟩ := by kernel_rfl
theorem tb59 (F : Addr → Prop) : (B.env F).tab 59 = some ⟨.int .u64, 1, 8, [u64 ((0 : UInt64))]⟩ := tt59
attribute [go_sem] tb59
theorem tt66 : tabOf Tryd.prog 66 = some ⟨.array 64 55, 64, 256, (C1 u32 ((Arr.rep 64 (0 : UInt32))).l)⟩ := by kernel_rfl
theorem tb66 (F : Addr → Prop) : (B.env F).tab 66 = some ⟨.array 64 55, 64, 256, (C1 u32 ((Arr.rep 64 (0 : UInt32))).l)⟩ := tt66
attribute [go_sem] tb66
theorem ku32x0 : AV.int .u32 0 = u32 0 := rfl
attribute [go_sem] ku32x0
theorem ku32x113926993 : AV.int .u32 113926993 = u32 113926993 := rfl
attribute [go_sem] ku32x113926993
theorem ku32x264347078 : AV.int .u32 264347078 = u32 264347078 := rfl
attribute [go_sem] ku32x264347078
theorem ku32x275423344 : AV.int .u32 275423344 = u32 275423344 := rfl
attribute [go_sem] ku32x275423344
theorem ku32x310598401 : AV.int .u32 310598401 = u32 310598401 := rfl
attribute [go_sem] ku32x310598401
theorem ku32x338241895 : AV.int .u32 338241895 = u32 338241895 := rfl
attribute [go_sem] ku32x338241895
theorem ku32x430227734 : AV.int .u32 430227734 = u32 430227734 := rfl
attribute [go_sem] ku32x430227734
theorem ku32x506948616 : AV.int .u32 506948616 = u32 506948616 := rfl
attribute [go_sem] ku32x506948616
theorem ku32x528734635 : AV.int .u32 528734635 = u32 528734635 := rfl
attribute [go_sem] ku32x528734635
theorem ku32x604807628 : AV.int .u32 604807628 = u32 604807628 := rfl
attribute [go_sem] ku32x604807628
theorem ku32x607225278 : AV.int .u32 607225278 = u32 607225278 := rfl
attribute [go_sem] ku32x607225278
theorem ku32x659060556 : AV.int .u32 659060556 = u32 659060556 := rfl
attribute [go_sem] ku32x659060556
theorem ku32x666307205 : AV.int .u32 666307205 = u32 666307205 := rfl
attribute [go_sem] ku32x666307205
theorem ku32x770255983 : AV.int .u32 770255983 = u32 770255983 := rfl
attribute [go_sem] ku32x770255983
theorem ku32x773529912 : AV.int .u32 773529912 = u32 773529912 := rfl
attribute [go_sem] ku32x773529912
theorem ku32x883997877 : AV.int .u32 883997877 = u32 883997877 := rfl
attribute [go_sem] ku32x883997877
theorem ku32x958139571 : AV.int .u32 958139571 = u32 958139571 := rfl
attribute [go_sem] ku32x958139571
theorem ku32x961987163 : AV.int .u32 961987163 = u32 961987163 := rfl
attribute [go_sem] ku32x961987163
theorem ku32x1013904242 : AV.int .u32 1013904242 = u32 1013904242 := rfl
attribute [go_sem] ku32x1013904242
theorem ku32x1116352408 : AV.int .u32 1116352408 = u32 1116352408 := rfl
attribute [go_sem] ku32x1116352408
theorem ku32x1249150122 : AV.int .u32 1249150122 = u32 1249150122 := rfl
attribute [go_sem] ku32x1249150122
theorem ku32x1294757372 : AV.int .u32 1294757372 = u32 1294757372 := rfl
attribute [go_sem] ku32x1294757372
theorem ku32x1322822218 : AV.int .u32 1322822218 = u32 1322822218 := rfl
attribute [go_sem] ku32x1322822218
theorem ku32x1359893119 : AV.int .u32 1359893119 = u32 1359893119 := rfl
attribute [go_sem] ku32x1359893119
theorem ku32x1396182291 : AV.int .u32 1396182291 = u32 1396182291 := rfl
attribute [go_sem] ku32x1396182291
theorem ku32x1426881987 : AV.int .u32 1426881987 = u32 1426881987 := rfl
attribute [go_sem] ku32x1426881987
theorem ku32x1508970993 : AV.int .u32 1508970993 = u32 1508970993 := rfl
attribute [go_sem] ku32x1508970993
theorem ku32x1537002063 : AV.int .u32 1537002063 = u32 1537002063 := rfl
attribute [go_sem] ku32x1537002063
theorem ku32x1541459225 : AV.int .u32 1541459225 = u32 1541459225 := rfl
attribute [go_sem] ku32x1541459225
theorem ku32x1555081692 : AV.int .u32 1555081692 = u32 1555081692 := rfl
attribute [go_sem] ku32x1555081692
theorem ku32x1695183700 : AV.int .u32 1695183700 = u32 1695183700 := rfl
attribute [go_sem] ku32x1695183700
theorem ku32x1747873779 : AV.int .u32 1747873779 = u32 1747873779 := rfl
attribute [go_sem] ku32x1747873779
theorem ku32x1779033703 : AV.int .u32 1779033703 = u32 1779033703 := rfl
attribute [go_sem] ku32x1779033703
theorem ku32x1899447441 : AV.int .u32 1899447441 = u32 1899447441 := rfl
attribute [go_sem] ku32x1899447441
theorem ku32x1925078388 : AV.int .u32 1925078388 = u32 1925078388 := rfl
attribute [go_sem] ku32x1925078388
theorem ku32x1955562222 : AV.int .u32 1955562222 = u32 1955562222 := rfl
attribute [go_sem] ku32x1955562222
theorem ku32x1986661051 : AV.int .u32 1986661051 = u32 1986661051 := rfl
attribute [go_sem] ku32x1986661051
theorem ku32x1996064986 : AV.int .u32 1996064986 = u32 1996064986 := rfl
attribute [go_sem] ku32x1996064986
theorem ku32x2024104815 : AV.int .u32 2024104815 = u32 2024104815 := rfl
attribute [go_sem] ku32x2024104815
theorem ku32x2162078206 : AV.int .u32 2162078206 = u32 2162078206 := rfl
attribute [go_sem] ku32x2162078206
theorem ku32x2177026350 : AV.int .u32 2177026350 = u32 2177026350 := rfl
attribute [go_sem] ku32x2177026350
theorem ku32x2227730452 : AV.int .u32 2227730452 = u32 2227730452 := rfl
attribute [go_sem] ku32x2227730452
theorem ku32x2361852424 : AV.int .u32 2361852424 = u32 2361852424 := rfl
attribute [go_sem] ku32x2361852424
theorem ku32x2428436474 : AV.int .u32 2428436474 = u32 2428436474 := rfl
attribute [go_sem] ku32x2428436474
theorem ku32x2453635748 : AV.int .u32 2453635748 = u32 2453635748 := rfl
attribute [go_sem] ku32x2453635748
theorem ku32x2456956037 : AV.int .u32 2456956037 = u32 2456956037 := rfl
attribute [go_sem] ku32x2456956037
theorem ku32x2554220882 : AV.int .u32 2554220882 = u32 2554220882 := rfl
attribute [go_sem] ku32x2554220882
theorem ku32x2600822924 : AV.int .u32 2600822924 = u32 2600822924 := rfl
attribute [go_sem] ku32x2600822924
theorem ku32x2614888103 : AV.int .u32 2614888103 = u32 2614888103 := rfl
attribute [go_sem] ku32x2614888103
theorem ku32x2730485921 : AV.int .u32 2730485921 = u32 2730485921 := rfl
attribute [go_sem] ku32x2730485921
theorem ku32x2756734187 : AV.int .u32 2756734187 = u32 2756734187 := rfl
attribute [go_sem] ku32x2756734187
theorem ku32x2773480762 : AV.int .u32 2773480762 = u32 2773480762 := rfl
attribute [go_sem] ku32x2773480762
theorem ku32x2820302411 : AV.int .u32 2820302411 = u32 2820302411 := rfl
attribute [go_sem] ku32x2820302411
theorem ku32x2821834349 : AV.int .u32 2821834349 = u32 2821834349 := rfl
attribute [go_sem] ku32x2821834349
theorem ku32x2870763221 : AV.int .u32 2870763221 = u32 2870763221 := rfl
attribute [go_sem] ku32x2870763221
theorem ku32x2952996808 : AV.int .u32 2952996808 = u32 2952996808 := rfl
attribute [go_sem] ku32x2952996808
theorem ku32x3049323471 : AV.int .u32 3049323471 = u32 3049323471 := rfl
attribute [go_sem] ku32x3049323471
theorem ku32x3144134277 : AV.int .u32 3144134277 = u32 3144134277 := rfl
attribute [go_sem] ku32x3144134277
theorem ku32x3204031479 : AV.int .u32 3204031479 = u32 3204031479 := rfl
attribute [go_sem] ku32x3204031479
theorem ku32x3210313671 : AV.int .u32 3210313671 = u32 3210313671 := rfl
attribute [go_sem] ku32x3210313671
theorem ku32x3248222580 : AV.int .u32 3248222580 = u32 3248222580 := rfl
attribute [go_sem] ku32x3248222580
theorem ku32x3259730800 : AV.int .u32 3259730800 = u32 3259730800 := rfl
attribute [go_sem] ku32x3259730800
theorem ku32x3329325298 : AV.int .u32 3329325298 = u32 3329325298 := rfl
attribute [go_sem] ku32x3329325298
theorem ku32x3336571891 : AV.int .u32 3336571891 = u32 3336571891 := rfl
attribute [go_sem] ku32x3336571891
theorem ku32x3345764771 : AV.int .u32 3345764771 = u32 3345764771 := rfl
attribute [go_sem] ku32x3345764771
theorem ku32x3516065817 : AV.int .u32 3516065817 = u32 3516065817 := rfl
attribute [go_sem] ku32x3516065817
theorem ku32x3584528711 : AV.int .u32 3584528711 = u32 3584528711 := rfl
attribute [go_sem] ku32x3584528711
theorem ku32x3600352804 : AV.int .u32 3600352804 = u32 3600352804 := rfl
attribute [go_sem] ku32x3600352804
theorem ku32x3624381080 : AV.int .u32 3624381080 = u32 3624381080 := rfl
attribute [go_sem] ku32x3624381080
theorem ku32x3835390401 : AV.int .u32 3835390401 = u32 3835390401 := rfl
attribute [go_sem] ku32x3835390401
theorem ku32x3921009573 : AV.int .u32 3921009573 = u32 3921009573 := rfl
attribute [go_sem] ku32x3921009573
theorem ku32x4022224774 : AV.int .u32 4022224774 = u32 4022224774 := rfl
attribute [go_sem] ku32x4022224774
theorem ku32x4094571909 : AV.int .u32 4094571909 = u32 4094571909 := rfl
attribute [go_sem] ku32x4094571909
theorem ku64x0 : AV.int .u64 0 = u64 0 := rfl
attribute [go_sem] ku64x0
theorem ku64x3 : AV.int .u64 3 = u64 3 := rfl
attribute [go_sem] ku64x3
theorem ku64x8 : AV.int .u64 8 = u64 8 := rfl
attribute [go_sem] ku64x8
theorem ku64x10 : AV.int .u64 10 = u64 10 := rfl
attribute [go_sem] ku64x10
theorem ku64x16 : AV.int .u64 16 = u64 16 := rfl
attribute [go_sem] ku64x16
theorem ku64x24 : AV.int .u64 24 = u64 24 := rfl
attribute [go_sem] ku64x24
theorem ku64x31 : AV.int .u64 31 = u64 31 := rfl
attribute [go_sem] ku64x31
theorem ku64x32 : AV.int .u64 32 = u64 32 := rfl
attribute [go_sem] ku64x32
theorem ku64x258 : AV.int .u64 258 = u64 258 := rfl
attribute [go_sem] ku64x258
theorem ku8x0 : AV.int .u8 0 = u8 0 := rfl
attribute [go_sem] ku8x0
theorem ku8x1 : AV.int .u8 1 = u8 1 := rfl
attribute [go_sem] ku8x1
theorem ku8x2 : AV.int .u8 2 = u8 2 := rfl
attribute [go_sem] ku8x2
theorem ku8x4 : AV.int .u8 4 = u8 4 := rfl
attribute [go_sem] ku8x4
theorem ku8x22 : AV.int .u8 22 = u8 22 := rfl
attribute [go_sem] ku8x22
theorem ku8x48 : AV.int .u8 48 = u8 48 := rfl
attribute [go_sem] ku8x48
theorem ku8x64 : AV.int .u8 64 = u8 64 := rfl
attribute [go_sem] ku8x64
theorem ku8x66 : AV.int .u8 66 = u8 66 := rfl
attribute [go_sem] ku8x66
theorem ku8x85 : AV.int .u8 85 = u8 85 := rfl
attribute [go_sem] ku8x85
theorem ku8x97 : AV.int .u8 97 = u8 97 := rfl
attribute [go_sem] ku8x97
theorem ku8x98 : AV.int .u8 98 = u8 98 := rfl
attribute [go_sem] ku8x98
theorem ku8x99 : AV.int .u8 99 = u8 99 := rfl
attribute [go_sem] ku8x99
theorem ku8x101 : AV.int .u8 101 = u8 101 := rfl
attribute [go_sem] ku8x101
theorem ku8x110 : AV.int .u8 110 = u8 110 := rfl
attribute [go_sem] ku8x110
theorem ku8x116 : AV.int .u8 116 = u8 116 := rfl
attribute [go_sem] ku8x116
theorem ku8x120 : AV.int .u8 120 = u8 120 := rfl
attribute [go_sem] ku8x120
theorem ku8x128 : AV.int .u8 128 = u8 128 := rfl
attribute [go_sem] ku8x128
theorem ku8x173 : AV.int .u8 173 = u8 173 := rfl
attribute [go_sem] ku8x173
theorem ku8x176 : AV.int .u8 176 = u8 176 := rfl
attribute [go_sem] ku8x176
theorem ku8x186 : AV.int .u8 186 = u8 186 := rfl
attribute [go_sem] ku8x186
theorem ku8x191 : AV.int .u8 191 = u8 191 := rfl
attribute [go_sem] ku8x191
theorem ku8x196 : AV.int .u8 196 = u8 196 := rfl
attribute [go_sem] ku8x196
theorem ku8x227 : AV.int .u8 227 = u8 227 := rfl
attribute [go_sem] ku8x227
theorem ku8x255 : AV.int .u8 255 = u8 255 := rfl
attribute [go_sem] ku8x255
theorem app22x22 {F} {σ : Store} (s x : AV) : builtinA (B.env F) σ .append [22, 22] [s, x] = match view σ x with
      | some new => if strBad x 1 = true then none else if ∀ cs ∈ new, cs.length = 1 then (match s with
          | .sl full els =>
            if els = [] ∧ full = true then
              if Fits new.length 1 then some (.bs false σ.length new.length 0 new.length, σ ++ [.buf 1 new false]) else none
            else if new = [] then some (.sl full els, σ)
            else if full = true ∧ (∀ cs ∈ els, cs.length = 1) ∧ Fits (els.length + new.length) 1
            then some (.bs false σ.length (els.length + new.length) 0 (els.length + new.length), σ ++ [.buf 1 (els ++ new) false]) else none
          | .bs full id tot off len => match σ[id]? with
            | some (.buf k els ro) =>
              if els.length = tot ∧ k = 1 ∧ Fits (len + new.length) 1 then
                if off = 0 ∧ len = tot then some (.bs false id (tot + new.length) 0 (tot + new.length), σ.set id (.buf k (els ++ new) ro))
                else if new = [] then some (.bs full id tot off len, σ)
                else if full then some (.bs false σ.length (len + new.length) 0 (len + new.length), σ ++ [.buf k ((els.drop off).take len ++ new) false])
                else none
              else none
            | _ => none
          | _ => none)
        else none
      | none => none := append_eq (tb22 F) (tb5 F) (by decide) (tb22 F) (.inl ⟨_, rfl⟩) s x []
attribute [go_sem] app22x22
theorem ixsl36 {F} {σ : Store} (f : Bool) (l : List Api_Value) (x : AV) : indexAddrA (B.env F) σ 36 (.sl f (L cApi_Value l)) x = match idx x l.length with
    | some i => some (.rp (cApi_Value (nth l i)))
    | none => none := ixA_sl cApi_Value (tb36 F) (tb38 F) (fun y => by rw [cApi_Value_eq]; rfl) f l x
attribute [go_sem] ixsl36
theorem ixsl22 {F} {σ : Store} (f : Bool) (l : List UInt8) (x : AV) : indexAddrA (B.env F) σ 22 (.sl f (L cU8 l)) x = match idx x l.length with
    | some i => some (.rp (cU8 (nth l i)))
    | none => none := ixA_sl cU8 (tb22 F) (tb5 F) (fun _ => rfl) f l x
attribute [go_sem] ixsl22
theorem ixar66 {F} {σ : Store} (id off : Nat) (x : AV) : indexAddrA (B.env F) σ 66 (.ref id off) x = match idx x 64 with
    | some i => some (.ref id (off + i * 1))
    | none => none := ixA_arr (tb66 F) (tb55 F) id off x
attribute [go_sem] ixar66
theorem ixar56 {F} {σ : Store} (id off : Nat) (x : AV) : indexAddrA (B.env F) σ 56 (.ref id off) x = match idx x 8 with
    | some i => some (.ref id (off + i * 1))
    | none => none := ixA_arr (tb56 F) (tb55 F) id off x
attribute [go_sem] ixar56
theorem ixgl66x0 {F} {σ : Store} (x : AV) : indexAddrA (B.env F) σ 66 (.glob 0) x = match idx x 64 with
    | some i => some (.rp ((C1 u32 glob0.l).drop i))
    | none => none := ixA_glob (tb66 F) (tb55 F) rfl x
attribute [go_sem] ixgl66x0
theorem ixsl45 {F} {σ : Store} (f : Bool) (l : List (List UInt8)) (x : AV) : indexAddrA (B.env F) σ 45 (.sl f (L (cSl cU8) l)) x = match idx x l.length with
    | some i => some (.rp ((cSl cU8) (nth l i)))
    | none => none := ixA_sl (cSl cU8) (tb45 F) (tb22 F) (fun _ => rfl) f l x
attribute [go_sem] ixsl45
theorem ixar25 {F} {σ : Store} (id off : Nat) (x : AV) : indexAddrA (B.env F) σ 25 (.ref id off) x = match idx x 32 with
    | some i => some (.ref id (off + i * 1))
    | none => none := ixA_arr (tb25 F) (tb5 F) id off x
attribute [go_sem] ixar25
theorem aeq25 {F} {op : BinOp} (a b : Arr UInt8 32) : binOpA (B.env F) op 25 (.agg (C1 u8 a.l)) (.agg (C1 u8 b.l)) = match op with
    | .eql => some (.bool (a == b))
    | .neq => some (.bool (!(a == b)))
    | _ => none := bin_arr_u8 (tb25 F) (tb5 F) a b
attribute [go_sem] aeq25
theorem app47x47 {F} {σ : Store} (s x : AV) : builtinA (B.env F) σ .append [47, 47] [s, x] = match view σ x with
      | some new => if strBad x 32 = true then none else if ∀ cs ∈ new, cs.length = 32 then (match s with
          | .sl full els =>
            if els = [] ∧ full = true then
              if Fits new.length 32 then some (.bs false σ.length new.length 0 new.length, σ ++ [.buf 32 new false]) else none
            else if new = [] then some (.sl full els, σ)
            else if full = true ∧ (∀ cs ∈ els, cs.length = 32) ∧ Fits (els.length + new.length) 32
            then some (.bs false σ.length (els.length + new.length) 0 (els.length + new.length), σ ++ [.buf 32 (els ++ new) false]) else none
          | .bs full id tot off len => match σ[id]? with
            | some (.buf k els ro) =>
              if els.length = tot ∧ k = 32 ∧ Fits (len + new.length) 32 then
                if off = 0 ∧ len = tot then some (.bs false id (tot + new.length) 0 (tot + new.length), σ.set id (.buf k (els ++ new) ro))
                else if new = [] then some (.bs full id tot off len, σ)
                else if full then some (.bs false σ.length (len + new.length) 0 (len + new.length), σ ++ [.buf k ((els.drop off).take len ++ new) false])
                else none
              else none
            | _ => none
          | _ => none)
        else none
      | none => none := append_eq (tb47 F) (tb25 F) (by decide) (tb47 F) (.inl ⟨_, rfl⟩) s x []
attribute [go_sem] app47x47
theorem bbneq4 {F} (x y : Bool) : binOpA (B.env F) .neq 4 (.bool x) (.bool y) = some (.bool (!(x == y))) := bin_bool_neq (tb4 F) x y
attribute [go_sem] bbneq4
theorem bbeql4 {F} (x y : Bool) : binOpA (B.env F) .eql 4 (.bool x) (.bool y) = some (.bool (x == y)) := bin_bool_eql (tb4 F) x y
attribute [go_sem] bbeql4
theorem aeq25x12 {F} {op : BinOp} (a : Arr UInt8 32) : binOpA (B.env F) op 25 (.agg (C1 u8 a.l)) (.agg [u8 (0 : UInt8), u8 (0 : UInt8), u8 (0 : UInt8), u8 (0 : UInt8), u8 (0 : UInt8), u8 (0 : UInt8), u8 (0 : UInt8), u8 (0 : UInt8), u8 (0 : UInt8), u8 (0 : UInt8), u8 (0 : UInt8), u8 (0 : UInt8), u8 (0 : UInt8), u8 (0 : UInt8), u8 (0 : UInt8), u8 (0 : UInt8), u8 (0 : UInt8), u8 (0 : UInt8), u8 (0 : UInt8), u8 (0 : UInt8), u8 (0 : UInt8), u8 (0 : UInt8), u8 (0 : UInt8), u8 (0 : UInt8), u8 (0 : UInt8), u8 (0 : UInt8), u8 (0 : UInt8), u8 (0 : UInt8), u8 (0 : UInt8), u8 (0 : UInt8), u8 (0 : UInt8), u8 (0 : UInt8)]) = match op with
    | .eql => some (.bool (a == (⟨[(0 : UInt8), (0 : UInt8), (0 : UInt8), (0 : UInt8), (0 : UInt8), (0 : UInt8), (0 : UInt8), (0 : UInt8), (0 : UInt8), (0 : UInt8), (0 : UInt8), (0 : UInt8), (0 : UInt8), (0 : UInt8), (0 : UInt8), (0 : UInt8), (0 : UInt8), (0 : UInt8), (0 : UInt8), (0 : UInt8), (0 : UInt8), (0 : UInt8), (0 : UInt8), (0 : UInt8), (0 : UInt8), (0 : UInt8), (0 : UInt8), (0 : UInt8), (0 : UInt8), (0 : UInt8), (0 : UInt8), (0 : UInt8)], rfl⟩ : Arr UInt8 32)))
    | .neq => some (.bool (!(a == (⟨[(0 : UInt8), (0 : UInt8), (0 : UInt8), (0 : UInt8), (0 : UInt8), (0 : UInt8), (0 : UInt8), (0 : UInt8), (0 : UInt8), (0 : UInt8), (0 : UInt8), (0 : UInt8), (0 : UInt8), (0 : UInt8), (0 : UInt8), (0 : UInt8), (0 : UInt8), (0 : UInt8), (0 : UInt8), (0 : UInt8), (0 : UInt8), (0 : UInt8), (0 : UInt8), (0 : UInt8), (0 : UInt8), (0 : UInt8), (0 : UInt8), (0 : UInt8), (0 : UInt8), (0 : UInt8), (0 : UInt8), (0 : UInt8)], rfl⟩ : Arr UInt8 32))))
    | _ => none := aeq25 a (⟨[(0 : UInt8), (0 : UInt8), (0 : UInt8), (0 : UInt8), (0 : UInt8), (0 : UInt8), (0 : UInt8), (0 : UInt8), (0 : UInt8), (0 : UInt8), (0 : UInt8), (0 : UInt8), (0 : UInt8), (0 : UInt8), (0 : UInt8), (0 : UInt8), (0 : UInt8), (0 : UInt8), (0 : UInt8), (0 : UInt8), (0 : UInt8), (0 : UInt8), (0 : UInt8), (0 : UInt8), (0 : UInt8), (0 : UInt8), (0 : UInt8), (0 : UInt8), (0 : UInt8), (0 : UInt8), (0 : UInt8), (0 : UInt8)], rfl⟩ : Arr UInt8 32)
attribute [go_sem] aeq25x12
theorem ixsl47 {F} {σ : Store} (f : Bool) (l : List (Arr UInt8 32)) (x : AV) : indexAddrA (B.env F) σ 47 (.sl f (L (cArr u8 32) l)) x = match idx x l.length with
    | some i => some (.rp ((cArr u8 32) (nth l i)))
    | none => none := ixA_sl (cArr u8 32) (tb47 F) (tb25 F) (fun y => C1_len (a := y)) f l x
attribute [go_sem] ixsl47
end Go.Proofs.YtgdiabbgiiemcaaDoor
