/-
  What the functions compute, as plain programs.
-/
import Derived.Test.YtgdiabbgiiemcaaDoorDT
namespace Go.Proofs.YtgdiabbgiiemcaaDoor
open Go.Rv
set_option linter.unusedVariables false
set_option linter.unusedSimpArgs false
set_option maxRecDepth 20000

def bits_RotateLeft32 (x_1 : UInt32) (k_2 : Int) : Option (UInt32) :=
  lt1 (((UInt64.ofInt k_2) &&& (31 : UInt64))) fun (s_3 : UInt64) =>
  lt1 (((shl32 x_1 s_3.toNat) ||| (shr32 x_1 (((32 : UInt64) - s_3)).toNat))) fun (t_5 : UInt32) =>
  some t_5

def codec_appendInt_1_b1 (u_28 : UInt64) (k_29 : Int) : Option ((UInt64 × Int) ⊕ (Int)) :=
  if (decide (u_28 > (0 : UInt64))) = true then
    lt1 ((shr64 u_28 ((8 : UInt64)).toNat)) fun (u_38 : UInt64) =>
    some (.inl ((u_38, (w64 (k_29 + 1)))))
  else
    some (.inr k_29)
def codec_appendInt_1 (u_7 : UInt64) : Option (Int) :=
  ((loopO (fun (v : UInt64 × Int) => codec_appendInt_1_b1 v.1 v.2) ((u_7, 0))).bind fun k_32 =>
  some k_32 : Option (Int)).bind fun k_22 =>
  some k_22

def r02_rotr (x_40 : UInt32) (n_41 : Int) : Option (UInt32) :=
  if NotNeg n_41 then
    if NotNeg ((w64 (32 - n_41))) then
      lt1 (((shr32 x_40 n_41.toNat) ||| (shl32 x_40 (((w64 (32 - n_41))).toNat)))) fun (t_44 : UInt32) =>
      some t_44
    else none
  else none

def codec_appendInt_b1 (n_47 : Int) (k_120 : Int) (t_160 : Int) (l_161 : List UInt8) : Option ((Int × List UInt8) ⊕ (List UInt8)) :=
  if (decide (t_160 < k_120)) = true then
    if NotNeg ((w64 (8 * (w64 ((w64 (k_120 - 1)) - t_160))))) then
      if Fits (l_161.length + 1) 1 then
        lt1 ((l_161 ++ (([((shr64 ((UInt64.ofInt n_47)) (((w64 (8 * (w64 ((w64 (k_120 - 1)) - t_160))))).toNat))).toUInt8] : List UInt8)))) fun (l_174 : List UInt8) =>
        some (.inl (((w64 (t_160 + 1)), l_174)))
      else none
    else none
  else
    some (.inr l_161)
def codec_appendInt (b_46 : List UInt8) (n_47 : Int) : Option (List UInt8) :=
  (codec_appendInt_1 ((UInt64.ofInt n_47))).bind fun y_112 =>
  lt1 ((UInt8.ofInt ((w64 (32 + y_112))))) fun (tag_114 : UInt8) =>
  (if (decide (n_47 < 0)) = true then
    (codec_appendInt_1 ((~~~(UInt64.ofInt n_47)))).bind fun y_125 =>
    lt1 ((UInt8.ofInt ((w64 (31 - y_125))))) fun (tag_127 : UInt8) =>
    some ((y_125, tag_127))
  else
    some ((y_112, tag_114)) : Option (Int × UInt8)).bind fun (k_120, tag_121) =>
  if Fits (b_46.length + 1) 1 then
    lt1 ((b_46 ++ (([tag_121] : List UInt8)))) fun (l_130 : List UInt8) =>
    ((loopO (fun (v : Int × List UInt8) => codec_appendInt_b1 n_47 k_120 v.1 v.2) ((0, l_130))).bind fun l_166 =>
    some l_166 : Option (List UInt8)).bind fun l_152 =>
    some l_152
  else none

def codec_shape_b1 (v_176 : Api_Value) (rec_ : Api_Value → Option (Int × Bool)) (depth_345 : Int) (t_346 : Int) : Option ((Int × Int) ⊕ ((Int) ⊕ ((Int) ⊕ ((Unit) ⊕ (Int × Bool))))) :=
  if (decide (t_346 < (v_176.L.length : Int))) = true then
    if InR t_346 v_176.L.length then
      lt1 ((nth v_176.L t_346.toNat).Kind) fun (f_368 : Int) =>
      lt1 ((nth v_176.L t_346.toNat).N) fun (f_369 : Int) =>
      lt1 ((nth v_176.L t_346.toNat).B) fun (f_370 : List UInt8) =>
      lt1 ((nth v_176.L t_346.toNat).L) fun (f_371 : List Api_Value) =>
      (rec_ ((Api_Value.mk f_368 f_369 f_370 f_371))).bind fun y_376 =>
      if (!y_376.2) = true then
        (((some ((0, false))).bind fun z_378 => some (.inr z_378)).bind fun z_379 => some (.inr z_379)).bind fun z_380 => some (.inr (.inr z_380))
      else
        some (.inl (((mx64 depth_345 y_376.1), (w64 (t_346 + 1)))))
    else none
  else
    some (.inr (.inl depth_345))
def codec_shape_F (rec_ : Api_Value → Option (Int × Bool)) (v_176 : Api_Value) : Option (Int × Bool) :=
  (if (v_176.Kind == 1) = true then
    (if ((v_176.B.length : Int) == 0) = true then
      some (((v_176.L.length : Int) == 0))
    else
      some false : Option (Bool)).bind fun ok_281 =>
    (some ((0, ok_281))).bind fun z_284 => some (.inr z_284)
  else
    if (v_176.Kind == 2) = true then
      (if (v_176.N == 0) = true then
        some (((v_176.L.length : Int) == 0))
      else
        some false : Option (Bool)).bind fun ok_285 =>
      (some ((0, ok_285))).bind fun z_288 => some (.inr z_288)
    else
      if (v_176.Kind == 3) = true then
        (if (v_176.N != 0) = true then
          some true
        else
          some (((v_176.B.length : Int) != 0)) : Option (Bool)).bind fun t_289 =>
        if t_289 = true then
          (some ((0, false))).bind fun z_292 => some (.inr z_292)
        else
          ((loopO (fun (v : Int × Int) => codec_shape_b1 v_176 rec_ v.1 v.2) ((0, 0))).bind fun x => match x with
          | .inl depth_361 =>
            some (.inl depth_361)
          | .inr z => some z : Option ((Int) ⊕ ((Unit) ⊕ (Int × Bool)))).bind fun x => match x with
          | .inl depth_335 =>
            (some (((w64 (depth_335 + 1)), true))).bind fun z_381 => some (.inr z_381)
          | .inr z => some z
      else
        some (.inl (())) : Option ((Unit) ⊕ (Int × Bool))).bind fun x => match x with
  | .inl () =>
    some ((0, false))
  | .inr z => some z
def codec_shape_n (n : Nat) : Api_Value → Option (Int × Bool) := match n with
  | 0 => fun _ => none
  | n + 1 => codec_shape_F (codec_shape_n n)
def codec_shape (v_176 : Api_Value) : Option (Int × Bool) := codec_shape_n 18446744073709551616 v_176

def codec_appendValue_b1 (v_383 : Api_Value) (t_917 : Int) (l_918 : List UInt8) : Option ((Int × List UInt8) ⊕ (List UInt8)) :=
  if (decide (t_917 < (v_383.B.length : Int))) = true then
    (if InR t_917 v_383.B.length then
      if Fits (l_918.length + 1) 1 then
        lt1 ((l_918 ++ (([nth v_383.B t_917.toNat] : List UInt8)))) fun (l_956 : List UInt8) =>
        if (nth v_383.B t_917.toNat == (0 : UInt8)) = true then
          if Fits (l_956.length + 1) 1 then
            lt1 ((l_956 ++ (([(255 : UInt8)] : List UInt8)))) fun (l_959 : List UInt8) =>
            some l_959
          else none
        else
          some l_956
      else none
    else none : Option (List UInt8)).bind fun l_950 =>
    some (.inl (((w64 (t_917 + 1)), l_950)))
  else
    some (.inr l_918)
def codec_appendValue_b2 (v_383 : Api_Value) (rec_ : (List UInt8) → Api_Value → Option (List UInt8)) (t_1008 : Int) (l_1009 : List UInt8) : Option ((Int × List UInt8) ⊕ (List UInt8)) :=
  if (decide (t_1008 < (v_383.L.length : Int))) = true then
    if InR t_1008 v_383.L.length then
      lt1 ((nth v_383.L t_1008.toNat).Kind) fun (f_1028 : Int) =>
      lt1 ((nth v_383.L t_1008.toNat).N) fun (f_1029 : Int) =>
      lt1 ((nth v_383.L t_1008.toNat).B) fun (f_1030 : List UInt8) =>
      lt1 ((nth v_383.L t_1008.toNat).L) fun (f_1031 : List Api_Value) =>
      (rec_ l_1009 ((Api_Value.mk f_1028 f_1029 f_1030 f_1031))).bind fun y_1036 =>
      some (.inl (((w64 (t_1008 + 1)), y_1036)))
    else none
  else
    some (.inr l_1009)
def codec_appendValue_F (rec_ : (List UInt8) → Api_Value → Option (List UInt8)) (b_382 : List UInt8) (v_383 : Api_Value) : Option (List UInt8) :=
  (if (v_383.Kind == 1) = true then
    (codec_appendInt b_382 v_383.N).bind fun y_827 =>
    (some y_827).bind fun z_829 => some (.inr z_829)
  else
    if (v_383.Kind == 2) = true then
      if Fits (b_382.length + 1) 1 then
        lt1 ((b_382 ++ (([(48 : UInt8)] : List UInt8)))) fun (l_831 : List UInt8) =>
        ((loopO (fun (v : Int × List UInt8) => codec_appendValue_b1 v_383 v.1 v.2) ((0, l_831))).bind fun l_937 =>
        some l_937 : Option (List UInt8)).bind fun l_895 =>
        if Fits (l_895.length + 2) 1 then
          lt1 ((l_895 ++ (([(0 : UInt8), (0 : UInt8)] : List UInt8)))) fun (l_962 : List UInt8) =>
          (some l_962).bind fun z_964 => some (.inr z_964)
        else none
      else none
    else
      some (.inl (())) : Option ((Unit) ⊕ (List UInt8))).bind fun x => match x with
  | .inl () =>
    if Fits (b_382.length + 1) 1 then
      lt1 ((b_382 ++ (([(64 : UInt8)] : List UInt8)))) fun (l_966 : List UInt8) =>
      ((loopO (fun (v : Int × List UInt8) => codec_appendValue_b2 v_383 rec_ v.1 v.2) ((0, l_966))).bind fun l_1021 =>
      some l_1021 : Option (List UInt8)).bind fun l_1001 =>
      if Fits (l_1001.length + 1) 1 then
        lt1 ((l_1001 ++ (([(0 : UInt8)] : List UInt8)))) fun (l_1039 : List UInt8) =>
        some l_1039
      else none
    else none
  | .inr z => some z
def codec_appendValue_n (n : Nat) : (List UInt8) → Api_Value → Option (List UInt8) := match n with
  | 0 => fun _ _ => none
  | n + 1 => codec_appendValue_F (codec_appendValue_n n)
def codec_appendValue (b_382 : List UInt8) (v_383 : Api_Value) : Option (List UInt8) := codec_appendValue_n 18446744073709551616 b_382 v_383

def codec_Encode (v_1041 : Api_Value) : Option (List UInt8 × Int) :=
  (codec_shape v_1041).bind fun y_1042 =>
  if (!y_1042.2) = true then
    some (([], 10))
  else
    if (decide (y_1042.1 > 16)) = true then
      some (([], 2))
    else
      (codec_appendValue ([]) v_1041).bind fun y_1044 =>
      if (decide ((y_1044.length : Int) > 65536)) = true then
        some (([], 2))
      else
        some ((y_1044, 0))

def r02_constants  : Option (Arr UInt32 64) :=
  lt1 ((⟨[(1116352408 : UInt32), (1899447441 : UInt32), (3049323471 : UInt32), (3921009573 : UInt32), (961987163 : UInt32), (1508970993 : UInt32), (2453635748 : UInt32), (2870763221 : UInt32), (3624381080 : UInt32), (310598401 : UInt32), (607225278 : UInt32), (1426881987 : UInt32), (1925078388 : UInt32), (2162078206 : UInt32), (2614888103 : UInt32), (3248222580 : UInt32), (3835390401 : UInt32), (4022224774 : UInt32), (264347078 : UInt32), (604807628 : UInt32), (770255983 : UInt32), (1249150122 : UInt32), (1555081692 : UInt32), (1996064986 : UInt32), (2554220882 : UInt32), (2821834349 : UInt32), (2952996808 : UInt32), (3210313671 : UInt32), (3336571891 : UInt32), (3584528711 : UInt32), (113926993 : UInt32), (338241895 : UInt32), (666307205 : UInt32), (773529912 : UInt32), (1294757372 : UInt32), (1396182291 : UInt32), (1695183700 : UInt32), (1986661051 : UInt32), (2177026350 : UInt32), (2456956037 : UInt32), (2730485921 : UInt32), (2820302411 : UInt32), (3259730800 : UInt32), (3345764771 : UInt32), (3516065817 : UInt32), (3600352804 : UInt32), (4094571909 : UInt32), (275423344 : UInt32), (430227734 : UInt32), (506948616 : UInt32), (659060556 : UInt32), (883997877 : UInt32), (958139571 : UInt32), (1322822218 : UInt32), (1537002063 : UInt32), (1747873779 : UInt32), (1955562222 : UInt32), (2024104815 : UInt32), (2227730452 : UInt32), (2361852424 : UInt32), (2428436474 : UInt32), (2756734187 : UInt32), (3204031479 : UInt32), (3329325298 : UInt32)], rfl⟩ : Arr UInt32 64)) fun (f_1046 : Arr UInt32 64) =>
  some f_1046

def r02_schedule_b1 (b_1048 : List UInt8) (i_1091 : Int) (f_1092 : Arr UInt32 64) : Option ((Int × Arr UInt32 64) ⊕ (Arr UInt32 64)) :=
  if (decide (i_1091 < 16)) = true then
    if InR ((w64 (4 * i_1091))) b_1048.length then
      if InR ((w64 ((w64 (4 * i_1091)) + 1))) b_1048.length then
        if InR ((w64 ((w64 (4 * i_1091)) + 2))) b_1048.length then
          if InR ((w64 ((w64 (4 * i_1091)) + 3))) b_1048.length then
            if InR i_1091 64 then
              lt1 ((f_1092.set i_1091.toNat (((((shl32 ((nth b_1048 (((w64 (4 * i_1091))).toNat)).toUInt32) ((24 : UInt64)).toNat) ||| (shl32 ((nth b_1048 (((w64 ((w64 (4 * i_1091)) + 1))).toNat)).toUInt32) ((16 : UInt64)).toNat)) ||| (shl32 ((nth b_1048 (((w64 ((w64 (4 * i_1091)) + 2))).toNat)).toUInt32) ((8 : UInt64)).toNat)) ||| (nth b_1048 (((w64 ((w64 (4 * i_1091)) + 3))).toNat)).toUInt32)))) fun (f_1111 : Arr UInt32 64) =>
              some (.inl (((w64 (i_1091 + 1)), f_1111)))
            else none
          else none
        else none
      else none
    else none
  else
    some (.inr f_1092)
def r02_schedule_b2 (i_1217 : Int) (f_1218 : Arr UInt32 64) : Option ((Int × Arr UInt32 64) ⊕ (Arr UInt32 64)) :=
  if (decide (i_1217 < 64)) = true then
    if InR ((w64 (i_1217 - 15))) 64 then
      (r02_rotr ((f_1218.get (((w64 (i_1217 - 15))).toNat))) 7).bind fun y_1248 =>
      if InR ((w64 (i_1217 - 15))) 64 then
        (r02_rotr ((f_1218.get (((w64 (i_1217 - 15))).toNat))) 18).bind fun y_1249 =>
        if InR ((w64 (i_1217 - 15))) 64 then
          lt1 (((y_1248 ^^^ y_1249) ^^^ (shr32 ((f_1218.get (((w64 (i_1217 - 15))).toNat))) ((3 : UInt64)).toNat))) fun (s0_1255 : UInt32) =>
          if InR ((w64 (i_1217 - 2))) 64 then
            (r02_rotr ((f_1218.get (((w64 (i_1217 - 2))).toNat))) 17).bind fun y_1257 =>
            if InR ((w64 (i_1217 - 2))) 64 then
              (r02_rotr ((f_1218.get (((w64 (i_1217 - 2))).toNat))) 19).bind fun y_1258 =>
              if InR ((w64 (i_1217 - 2))) 64 then
                lt1 (((y_1257 ^^^ y_1258) ^^^ (shr32 ((f_1218.get (((w64 (i_1217 - 2))).toNat))) ((10 : UInt64)).toNat))) fun (s1_1264 : UInt32) =>
                if InR ((w64 (i_1217 - 16))) 64 then
                  if InR ((w64 (i_1217 - 7))) 64 then
                    if InR i_1217 64 then
                      lt1 ((f_1218.set i_1217.toNat (((((f_1218.get (((w64 (i_1217 - 16))).toNat)) + s0_1255) + (f_1218.get (((w64 (i_1217 - 7))).toNat))) + s1_1264)))) fun (f_1269 : Arr UInt32 64) =>
                      some (.inl (((w64 (i_1217 + 1)), f_1269)))
                    else none
                  else none
                else none
              else none
            else none
          else none
        else none
      else none
    else none
  else
    some (.inr f_1218)
def r02_schedule (b_1048 : List UInt8) : Option (Arr UInt32 64) :=
  lt1 ((⟨[(0 : UInt32), (0 : UInt32), (0 : UInt32), (0 : UInt32), (0 : UInt32), (0 : UInt32), (0 : UInt32), (0 : UInt32), (0 : UInt32), (0 : UInt32), (0 : UInt32), (0 : UInt32), (0 : UInt32), (0 : UInt32), (0 : UInt32), (0 : UInt32), (0 : UInt32), (0 : UInt32), (0 : UInt32), (0 : UInt32), (0 : UInt32), (0 : UInt32), (0 : UInt32), (0 : UInt32), (0 : UInt32), (0 : UInt32), (0 : UInt32), (0 : UInt32), (0 : UInt32), (0 : UInt32), (0 : UInt32), (0 : UInt32), (0 : UInt32), (0 : UInt32), (0 : UInt32), (0 : UInt32), (0 : UInt32), (0 : UInt32), (0 : UInt32), (0 : UInt32), (0 : UInt32), (0 : UInt32), (0 : UInt32), (0 : UInt32), (0 : UInt32), (0 : UInt32), (0 : UInt32), (0 : UInt32), (0 : UInt32), (0 : UInt32), (0 : UInt32), (0 : UInt32), (0 : UInt32), (0 : UInt32), (0 : UInt32), (0 : UInt32), (0 : UInt32), (0 : UInt32), (0 : UInt32), (0 : UInt32), (0 : UInt32), (0 : UInt32), (0 : UInt32), (0 : UInt32)], rfl⟩ : Arr UInt32 64)) fun (f_1049 : Arr UInt32 64) =>
  ((loopO (fun (v : Int × Arr UInt32 64) => r02_schedule_b1 b_1048 v.1 v.2) ((0, f_1049))).bind fun f_1100 =>
  some f_1100 : Option (Arr UInt32 64)).bind fun f_1080 =>
  ((loopO (fun (v : Int × Arr UInt32 64) => r02_schedule_b2 v.1 v.2) ((16, f_1080))).bind fun f_1242 =>
  some f_1242 : Option (Arr UInt32 64)).bind fun f_1190 =>
  some f_1190

def r02_block_b1 (y_1273 : Arr UInt32 64) (y_1275 : Arr UInt32 64) (i_1489 : Int) (f_1490 : Arr UInt32 8) : Option ((Int × Arr UInt32 8) ⊕ (Arr UInt32 8)) :=
  if (decide (i_1489 < 64)) = true then
    (r02_rotr ((f_1490.get 4)) 6).bind fun y_1547 =>
    (r02_rotr ((f_1490.get 4)) 11).bind fun y_1548 =>
    (r02_rotr ((f_1490.get 4)) 25).bind fun y_1549 =>
    lt1 (((y_1547 ^^^ y_1548) ^^^ y_1549)) fun (s1_1556 : UInt32) =>
    lt1 ((((f_1490.get 4) &&& (f_1490.get 5)) ^^^ ((~~~(f_1490.get 4)) &&& (f_1490.get 6)))) fun (choice_1562 : UInt32) =>
    if InR i_1489 64 then
      if InR i_1489 64 then
        lt1 ((((((f_1490.get 7) + s1_1556) + choice_1562) + (y_1275.get i_1489.toNat)) + (y_1273.get i_1489.toNat))) fun (t1_1567 : UInt32) =>
        (r02_rotr ((f_1490.get 0)) 2).bind fun y_1569 =>
        (r02_rotr ((f_1490.get 0)) 13).bind fun y_1570 =>
        (r02_rotr ((f_1490.get 0)) 22).bind fun y_1571 =>
        lt1 (((y_1569 ^^^ y_1570) ^^^ y_1571)) fun (s0_1578 : UInt32) =>
        lt1 (((((f_1490.get 0) &&& (f_1490.get 1)) ^^^ ((f_1490.get 0) &&& (f_1490.get 2))) ^^^ ((f_1490.get 1) &&& (f_1490.get 2)))) fun (majority_1586 : UInt32) =>
        lt1 ((⟨[(t1_1567 + (s0_1578 + majority_1586)), (f_1490.get 0), (f_1490.get 1), (f_1490.get 2), ((f_1490.get 3) + t1_1567), (f_1490.get 4), (f_1490.get 5), (f_1490.get 6)], rfl⟩ : Arr UInt32 8)) fun (f_1595 : Arr UInt32 8) =>
        some (.inl (((w64 (i_1489 + 1)), f_1595)))
      else none
    else none
  else
    some (.inr f_1490)
def r02_block_b2 (f_1435 : Arr UInt32 8) (i_1629 : Int) (f_1630 : Arr UInt32 8) : Option ((Int × Arr UInt32 8) ⊕ (Arr UInt32 8)) :=
  if (decide (i_1629 < 8)) = true then
    if InR i_1629 8 then
      if InR i_1629 8 then
        if InR i_1629 8 then
          lt1 ((f_1630.set i_1629.toNat (((f_1630.get i_1629.toNat) + (f_1435.get i_1629.toNat))))) fun (f_1645 : Arr UInt32 8) =>
          some (.inl (((w64 (i_1629 + 1)), f_1645)))
        else none
      else none
    else none
  else
    some (.inr f_1630)
def r02_block (h_1271 : Arr UInt32 8) (b_1272 : List UInt8) : Option (Arr UInt32 8) :=
  (r02_schedule b_1272).bind fun y_1273 =>
  r02_constants.bind fun y_1275 =>
  ((loopO (fun (v : Int × Arr UInt32 8) => r02_block_b1 y_1273 y_1275 v.1 v.2) ((0, h_1271))).bind fun f_1541 =>
  some f_1541 : Option (Arr UInt32 8)).bind fun f_1435 =>
  ((loopO (fun (v : Int × Arr UInt32 8) => r02_block_b2 f_1435 v.1 v.2) ((0, h_1271))).bind fun f_1636 =>
  some f_1636 : Option (Arr UInt32 8)).bind fun f_1620 =>
  some f_1620

def digest_block_b1 (b_1648 : List UInt8) (t_1689 : Int) (f_1690 : Arr UInt32 64) : Option ((Int × Arr UInt32 64) ⊕ (Arr UInt32 64)) :=
  if (decide (t_1689 < 16)) = true then
    if InR ((w64 (4 * t_1689))) b_1648.length then
      if InR ((w64 ((w64 (4 * t_1689)) + 1))) b_1648.length then
        if InR ((w64 ((w64 (4 * t_1689)) + 2))) b_1648.length then
          if InR ((w64 ((w64 (4 * t_1689)) + 3))) b_1648.length then
            if InR t_1689 64 then
              lt1 ((f_1690.set t_1689.toNat (((((shl32 ((nth b_1648 (((w64 (4 * t_1689))).toNat)).toUInt32) ((24 : UInt64)).toNat) ||| (shl32 ((nth b_1648 (((w64 ((w64 (4 * t_1689)) + 1))).toNat)).toUInt32) ((16 : UInt64)).toNat)) ||| (shl32 ((nth b_1648 (((w64 ((w64 (4 * t_1689)) + 2))).toNat)).toUInt32) ((8 : UInt64)).toNat)) ||| (nth b_1648 (((w64 ((w64 (4 * t_1689)) + 3))).toNat)).toUInt32)))) fun (f_1709 : Arr UInt32 64) =>
              some (.inl (((w64 (t_1689 + 1)), f_1709)))
            else none
          else none
        else none
      else none
    else none
  else
    some (.inr f_1690)
def digest_block_b2 (i_1815 : Int) (f_1816 : Arr UInt32 64) : Option ((Int × Arr UInt32 64) ⊕ (Arr UInt32 64)) :=
  if (decide (i_1815 < 64)) = true then
    if InR ((w64 (i_1815 - 15))) 64 then
      if InR ((w64 (i_1815 - 2))) 64 then
        lt1 ((f_1816.get (((w64 (i_1815 - 15))).toNat))) fun (x_1848 : UInt32) =>
        lt1 ((f_1816.get (((w64 (i_1815 - 2))).toNat))) fun (y_1849 : UInt32) =>
        (bits_RotateLeft32 x_1848 ((-7))).bind fun y_1852 =>
        (bits_RotateLeft32 x_1848 ((-18))).bind fun y_1853 =>
        lt1 (((y_1852 ^^^ y_1853) ^^^ (shr32 x_1848 ((3 : UInt64)).toNat))) fun (s0_1856 : UInt32) =>
        (bits_RotateLeft32 y_1849 ((-17))).bind fun y_1858 =>
        (bits_RotateLeft32 y_1849 ((-19))).bind fun y_1859 =>
        lt1 (((y_1858 ^^^ y_1859) ^^^ (shr32 y_1849 ((10 : UInt64)).toNat))) fun (s1_1862 : UInt32) =>
        if InR ((w64 (i_1815 - 16))) 64 then
          if InR ((w64 (i_1815 - 7))) 64 then
            if InR i_1815 64 then
              lt1 ((f_1816.set i_1815.toNat (((((f_1816.get (((w64 (i_1815 - 16))).toNat)) + s0_1856) + (f_1816.get (((w64 (i_1815 - 7))).toNat))) + s1_1862)))) fun (f_1867 : Arr UInt32 64) =>
              some (.inl (((w64 (i_1815 + 1)), f_1867)))
            else none
          else none
        else none
      else none
    else none
  else
    some (.inr f_1816)
def digest_block_b3 (f_1788 : Arr UInt32 64) (t_2017 : Int) (f_2018 : Arr UInt32 8) : Option ((Int × Arr UInt32 8) ⊕ (Arr UInt32 8)) :=
  if (decide (t_2017 < 64)) = true then
    (bits_RotateLeft32 ((f_2018.get 4)) ((-6))).bind fun y_2061 =>
    (bits_RotateLeft32 ((f_2018.get 4)) ((-11))).bind fun y_2062 =>
    (bits_RotateLeft32 ((f_2018.get 4)) ((-25))).bind fun y_2063 =>
    if InR t_2017 64 then
      if InR t_2017 64 then
        lt1 ((((((f_2018.get 7) + ((y_2061 ^^^ y_2062) ^^^ y_2063)) + (((f_2018.get 4) &&& (f_2018.get 5)) ^^^ ((~~~(f_2018.get 4)) &&& (f_2018.get 6)))) + (glob0.get t_2017.toNat)) + (f_1788.get t_2017.toNat))) fun (t_2072 : UInt32) =>
        (bits_RotateLeft32 ((f_2018.get 0)) ((-2))).bind fun y_2074 =>
        (bits_RotateLeft32 ((f_2018.get 0)) ((-13))).bind fun y_2075 =>
        (bits_RotateLeft32 ((f_2018.get 0)) ((-22))).bind fun y_2076 =>
        lt1 ((((y_2074 ^^^ y_2075) ^^^ y_2076) + ((((f_2018.get 0) &&& (f_2018.get 1)) ^^^ ((f_2018.get 0) &&& (f_2018.get 2))) ^^^ ((f_2018.get 1) &&& (f_2018.get 2))))) fun (u_2084 : UInt32) =>
        lt1 ((⟨[(t_2072 + u_2084), (f_2018.get 0), (f_2018.get 1), (f_2018.get 2), ((f_2018.get 3) + t_2072), (f_2018.get 4), (f_2018.get 5), (f_2018.get 6)], rfl⟩ : Arr UInt32 8)) fun (f_2091 : Arr UInt32 8) =>
        some (.inl (((w64 (t_2017 + 1)), f_2091)))
      else none
    else none
  else
    some (.inr f_2018)
def digest_block_b4 (f_1979 : Arr UInt32 8) (t_2125 : Int) (f_2126 : Arr UInt32 8) : Option ((Int × Arr UInt32 8) ⊕ (Arr UInt32 8)) :=
  if (decide (t_2125 < 8)) = true then
    if InR t_2125 8 then
      if InR t_2125 8 then
        if InR t_2125 8 then
          lt1 ((f_2126.set t_2125.toNat (((f_2126.get t_2125.toNat) + (f_1979.get t_2125.toNat))))) fun (f_2141 : Arr UInt32 8) =>
          some (.inl (((w64 (t_2125 + 1)), f_2141)))
        else none
      else none
    else none
  else
    some (.inr f_2126)
def digest_block (h_1647 : Arr UInt32 8) (b_1648 : List UInt8) : Option (Arr UInt32 8) :=
  ((loopO (fun (v : Int × Arr UInt32 64) => digest_block_b1 b_1648 v.1 v.2) ((0, (Arr.rep 64 (0 : UInt32))))).bind fun f_1698 =>
  some f_1698 : Option (Arr UInt32 64)).bind fun f_1678 =>
  ((loopO (fun (v : Int × Arr UInt32 64) => digest_block_b2 v.1 v.2) ((16, f_1678))).bind fun f_1840 =>
  some f_1840 : Option (Arr UInt32 64)).bind fun f_1788 =>
  ((loopO (fun (v : Int × Arr UInt32 8) => digest_block_b3 f_1788 v.1 v.2) ((0, h_1647))).bind fun f_2053 =>
  some f_2053 : Option (Arr UInt32 8)).bind fun f_1979 =>
  ((loopO (fun (v : Int × Arr UInt32 8) => digest_block_b4 f_1979 v.1 v.2) ((0, h_1647))).bind fun f_2132 =>
  some f_2132 : Option (Arr UInt32 8)).bind fun f_2116 =>
  some f_2116

def r02_padded_b1 (l_2179 : List UInt8) : Option ((List UInt8) ⊕ (List UInt8)) :=
  if ((((l_2179.length : Int) : Int).tmod 64) != 56) = true then
    if Fits (l_2179.length + 1) 1 then
      lt1 ((l_2179 ++ (([(0 : UInt8)] : List UInt8)))) fun (l_2192 : List UInt8) =>
      some (.inl l_2192)
    else none
  else
    some (.inr l_2179)
def r02_padded_b2 (n_2194 : UInt64) (i_2224 : Int) (l_2225 : List UInt8) : Option ((Int × List UInt8) ⊕ (List UInt8)) :=
  if (decide (i_2224 < 8)) = true then
    if NotNeg ((w64 (56 - (w64 (8 * i_2224))))) then
      if Fits (l_2225.length + 1) 1 then
        lt1 ((l_2225 ++ (([((shr64 n_2194 (((w64 (56 - (w64 (8 * i_2224))))).toNat))).toUInt8] : List UInt8)))) fun (l_2238 : List UInt8) =>
        some (.inl (((w64 (i_2224 + 1)), l_2238)))
      else none
    else none
  else
    some (.inr l_2225)
def r02_padded (b_2143 : List UInt8) : Option (List UInt8) :=
  lt1 (([] : List UInt8)) fun (l_2144 : List UInt8) =>
  if Fits (l_2144.length + b_2143.length) 1 then
    lt1 ((l_2144 ++ b_2143)) fun (l_2147 : List UInt8) =>
    if Fits (l_2147.length + 1) 1 then
      lt1 ((l_2147 ++ (([(128 : UInt8)] : List UInt8)))) fun (l_2150 : List UInt8) =>
      ((loopO (fun (v : List UInt8) => r02_padded_b1 v) l_2150).bind fun l_2184 =>
      some l_2184 : Option (List UInt8)).bind fun l_2171 =>
      lt1 (((UInt64.ofInt ((b_2143.length : Int))) * (8 : UInt64))) fun (n_2194 : UInt64) =>
      ((loopO (fun (v : Int × List UInt8) => r02_padded_b2 n_2194 v.1 v.2) ((0, l_2171))).bind fun l_2230 =>
      some l_2230 : Option (List UInt8)).bind fun l_2216 =>
      some l_2216
    else none
  else none

def digest_sum_b1 (parts_2240 : List (List UInt8)) (t_2273 : Int) (l_2274 : List UInt8) : Option ((Int × List UInt8) ⊕ (List UInt8)) :=
  if (decide (t_2273 < (parts_2240.length : Int))) = true then
    if InR t_2273 parts_2240.length then
      lt1 (nth parts_2240 t_2273.toNat) fun (p_2288 : List UInt8) =>
      if Fits (l_2274.length + p_2288.length) 1 then
        lt1 ((l_2274 ++ p_2288)) fun (l_2291 : List UInt8) =>
        some (.inl (((w64 (t_2273 + 1)), l_2291)))
      else none
    else none
  else
    some (.inr l_2274)
def digest_sum_b2 (l_2325 : List UInt8) : Option ((List UInt8) ⊕ (List UInt8)) :=
  if ((((l_2325.length : Int) : Int).tmod 64) != 56) = true then
    if Fits (l_2325.length + 1) 1 then
      lt1 ((l_2325 ++ (([(0 : UInt8)] : List UInt8)))) fun (l_2338 : List UInt8) =>
      some (.inl l_2338)
    else none
  else
    some (.inr l_2325)
def digest_sum_b3 (n_2293 : UInt64) (i_2368 : Int) (l_2369 : List UInt8) : Option ((Int × List UInt8) ⊕ (List UInt8)) :=
  if (decide (i_2368 ≥ 0)) = true then
    if NotNeg i_2368 then
      if Fits (l_2369.length + 1) 1 then
        lt1 ((l_2369 ++ (([((shr64 n_2293 i_2368.toNat)).toUInt8] : List UInt8)))) fun (l_2382 : List UInt8) =>
        some (.inl (((w64 (i_2368 - 8)), l_2382)))
      else none
    else none
  else
    some (.inr l_2369)
def digest_sum_b4 (l_2360 : List UInt8) (m_2415 : Nat) (m_2416 : Nat) (f_2417 : Arr UInt32 8) : Option ((Nat × Nat × Arr UInt32 8) ⊕ (Arr UInt32 8)) :=
  if (decide ((m_2416 : Int) > 0)) = true then
    if InB 64 m_2416 then
      (digest_block f_2417 (((l_2360.drop m_2415).take 64))).bind fun y_2428 =>
      if InB 64 m_2416 then
        some (.inl (((m_2415 + 64), (m_2416 - 64), y_2428)))
      else none
    else none
  else
    some (.inr f_2417)
def digest_sum_b5 (f_2407 : Arr UInt32 8) (t_2472 : Int) (f_2473 : Arr UInt8 32) : Option ((Int × Arr UInt8 32) ⊕ (Arr UInt8 32)) :=
  if (decide (t_2472 < 32)) = true then
    if InR ((w64 ((t_2472 : Int).tdiv 4))) 8 then
      if NotNeg ((w64 (24 - (w64 (8 * ((t_2472 : Int).tmod 4)))))) then
        if InR t_2472 32 then
          lt1 ((f_2473.set t_2472.toNat (((shr32 ((f_2407.get (((w64 ((t_2472 : Int).tdiv 4))).toNat))) (((w64 (24 - (w64 (8 * ((t_2472 : Int).tmod 4)))))).toNat))).toUInt8))) fun (f_2492 : Arr UInt8 32) =>
          some (.inl (((w64 (t_2472 + 1)), f_2492)))
        else none
      else none
    else none
  else
    some (.inr f_2473)
def digest_sum (parts_2240 : List (List UInt8)) : Option (Arr UInt8 32) :=
  ((loopO (fun (v : Int × List UInt8) => digest_sum_b1 parts_2240 v.1 v.2) ((0, []))).bind fun l_2281 =>
  some l_2281 : Option (List UInt8)).bind fun l_2265 =>
  lt1 (((UInt64.ofInt ((l_2265.length : Int))) * (8 : UInt64))) fun (n_2293 : UInt64) =>
  if Fits (l_2265.length + 1) 1 then
    lt1 ((l_2265 ++ (([(128 : UInt8)] : List UInt8)))) fun (l_2296 : List UInt8) =>
    ((loopO (fun (v : List UInt8) => digest_sum_b2 v) l_2296).bind fun l_2330 =>
    some l_2330 : Option (List UInt8)).bind fun l_2317 =>
    ((loopO (fun (v : Int × List UInt8) => digest_sum_b3 n_2293 v.1 v.2) ((56, l_2317))).bind fun l_2374 =>
    some l_2374 : Option (List UInt8)).bind fun l_2360 =>
    lt1 ((⟨[(1779033703 : UInt32), (3144134277 : UInt32), (1013904242 : UInt32), (2773480762 : UInt32), (1359893119 : UInt32), (2600822924 : UInt32), (528734635 : UInt32), (1541459225 : UInt32)], rfl⟩ : Arr UInt32 8)) fun (f_2384 : Arr UInt32 8) =>
    ((loopO (fun (v : Nat × Nat × Arr UInt32 8) => digest_sum_b4 l_2360 v.1 v.2.1 v.2.2) ((0, l_2360.length, f_2384))).bind fun f_2422 =>
    some f_2422 : Option (Arr UInt32 8)).bind fun f_2407 =>
    ((loopO (fun (v : Int × Arr UInt8 32) => digest_sum_b5 f_2407 v.1 v.2) ((0, (Arr.rep 32 (0 : UInt8))))).bind fun f_2481 =>
    some f_2481 : Option (Arr UInt8 32)).bind fun f_2461 =>
    some f_2461
  else none

def digest_Sum (b_2494 : List UInt8) : Option (Arr UInt8 32) :=
  (digest_sum (([b_2494] : List (List UInt8)))).bind fun y_2495 =>
  some y_2495

def r02_Sum_b1 (y_2500 : List UInt8) (at_2530 : Int) (f_2531 : Arr UInt32 8) : Option ((Int × Arr UInt32 8) ⊕ (Arr UInt32 8)) :=
  if (decide (at_2530 < (y_2500.length : Int))) = true then
    if InB ((w64 (at_2530 + 64))) y_2500.length then
      if InB at_2530 (((w64 (at_2530 + 64))).toNat) then
        (r02_block f_2531 (((y_2500.drop at_2530.toNat).take (((w64 (at_2530 + 64))).toNat - at_2530.toNat)))).bind fun y_2542 =>
        some (.inl (((w64 (at_2530 + 64)), y_2542)))
      else none
    else none
  else
    some (.inr f_2531)
def r02_Sum_b2 (f_2522 : Arr UInt32 8) (i_2588 : Int) (f_2589 : Arr UInt8 32) : Option ((Int × Arr UInt8 32) ⊕ (Arr UInt8 32)) :=
  if (decide (i_2588 < 32)) = true then
    if InR ((w64 ((i_2588 : Int).tdiv 4))) 8 then
      if NotNeg ((w64 (24 - (w64 (8 * ((i_2588 : Int).tmod 4)))))) then
        if InR i_2588 32 then
          lt1 ((f_2589.set i_2588.toNat (((shr32 ((f_2522.get (((w64 ((i_2588 : Int).tdiv 4))).toNat))) (((w64 (24 - (w64 (8 * ((i_2588 : Int).tmod 4)))))).toNat))).toUInt8))) fun (f_2608 : Arr UInt8 32) =>
          some (.inl (((w64 (i_2588 + 1)), f_2608)))
        else none
      else none
    else none
  else
    some (.inr f_2589)
def r02_Sum (b_2497 : List UInt8) : Option (Arr UInt8 32) :=
  lt1 ((⟨[(1779033703 : UInt32), (3144134277 : UInt32), (1013904242 : UInt32), (2773480762 : UInt32), (1359893119 : UInt32), (2600822924 : UInt32), (528734635 : UInt32), (1541459225 : UInt32)], rfl⟩ : Arr UInt32 8)) fun (f_2498 : Arr UInt32 8) =>
  (r02_padded b_2497).bind fun y_2500 =>
  ((loopO (fun (v : Int × Arr UInt32 8) => r02_Sum_b1 y_2500 v.1 v.2) ((0, f_2498))).bind fun f_2536 =>
  some f_2536 : Option (Arr UInt32 8)).bind fun f_2522 =>
  lt1 ((⟨[(0 : UInt8), (0 : UInt8), (0 : UInt8), (0 : UInt8), (0 : UInt8), (0 : UInt8), (0 : UInt8), (0 : UInt8), (0 : UInt8), (0 : UInt8), (0 : UInt8), (0 : UInt8), (0 : UInt8), (0 : UInt8), (0 : UInt8), (0 : UInt8), (0 : UInt8), (0 : UInt8), (0 : UInt8), (0 : UInt8), (0 : UInt8), (0 : UInt8), (0 : UInt8), (0 : UInt8), (0 : UInt8), (0 : UInt8), (0 : UInt8), (0 : UInt8), (0 : UInt8), (0 : UInt8), (0 : UInt8), (0 : UInt8)], rfl⟩ : Arr UInt8 32)) fun (f_2546 : Arr UInt8 32) =>
  ((loopO (fun (v : Int × Arr UInt8 32) => r02_Sum_b2 f_2522 v.1 v.2) ((0, f_2546))).bind fun f_2597 =>
  some f_2597 : Option (Arr UInt8 32)).bind fun f_2577 =>
  some f_2577

def digest_Tagged (tag_2610 : List UInt8) (b_2611 : List UInt8) : Option (Arr UInt8 32) :=
  if InB ((mn64 ((tag_2610.length : Int)) 255)) tag_2610.length then
    lt1 ((tag_2610.take (((mn64 ((tag_2610.length : Int)) 255)).toNat))) fun (tag_2613 : List UInt8) =>
    (digest_sum (([([(UInt8.ofInt ((tag_2613.length : Int)))] : List UInt8), tag_2613, b_2611] : List (List UInt8)))).bind fun y_2615 =>
    some y_2615
  else none

def r02_Hashed (tag_2617 : List UInt8) (b_2618 : List UInt8) : Option (List UInt8) :=
  if InB ((mn64 ((tag_2617.length : Int)) 255)) tag_2617.length then
    lt1 ((tag_2617.take (((mn64 ((tag_2617.length : Int)) 255)).toNat))) fun (t_2620 : List UInt8) =>
    lt1 (([(UInt8.ofInt ((t_2620.length : Int)))] : List UInt8)) fun (l_2622 : List UInt8) =>
    if Fits (l_2622.length + t_2620.length) 1 then
      lt1 ((l_2622 ++ t_2620)) fun (l_2625 : List UInt8) =>
      if Fits (l_2625.length + b_2618.length) 1 then
        lt1 ((l_2625 ++ b_2618)) fun (l_2628 : List UInt8) =>
        some l_2628
      else none
    else none
  else none

def r02_Tagged (tag_2630 : List UInt8) (b_2631 : List UInt8) : Option (Arr UInt8 32) :=
  (r02_Hashed tag_2630 b_2631).bind fun y_2632 =>
  (r02_Sum y_2632).bind fun y_2633 =>
  some y_2633

def digest_Next (d_2636 : Arr UInt8 32) (b_2637 : List UInt8) : Option (Arr UInt8 32) :=
  (digest_sum (([([(4 : UInt8)] : List UInt8), ([(110 : UInt8), (101 : UInt8), (120 : UInt8), (116 : UInt8)] : List UInt8), d_2636.l, b_2637] : List (List UInt8)))).bind fun y_2638 =>
  some y_2638

def r02_Next (d_2640 : Arr UInt8 32) (b_2641 : List UInt8) : Option (Arr UInt8 32) :=
  lt1 (([] : List UInt8)) fun (l_2642 : List UInt8) =>
  if Fits (l_2642.length + d_2640.l.length) 1 then
    lt1 ((l_2642 ++ d_2640.l)) fun (l_2645 : List UInt8) =>
    if Fits (l_2645.length + b_2641.length) 1 then
      lt1 ((l_2645 ++ b_2641)) fun (l_2648 : List UInt8) =>
      (r02_Tagged (([110, 101, 120, 116] : List UInt8)) l_2648).bind fun y_2650 =>
      some y_2650
    else none
  else none

def digest_Number_b1 (d_2652 : Arr UInt8 32) (n_2683 : UInt64) (t_2684 : Int) : Option ((UInt64 × Int) ⊕ (UInt64)) :=
  if (decide (t_2684 < (((d_2652.l.take 8)).length : Int))) = true then
    if InR t_2684 (((d_2652.l.take 8)).length) then
      lt1 (nth ((d_2652.l.take 8)) t_2684.toNat) fun (b_2697 : UInt8) =>
      lt1 (((shl64 n_2683 ((8 : UInt64)).toNat) ||| b_2697.toUInt64)) fun (n_2699 : UInt64) =>
      some (.inl ((n_2699, (w64 (t_2684 + 1)))))
    else none
  else
    some (.inr n_2683)
def digest_Number (d_2652 : Arr UInt8 32) : Option (UInt64) :=
  ((loopO (fun (v : UInt64 × Int) => digest_Number_b1 d_2652 v.1 v.2) (((0 : UInt64), 0))).bind fun n_2690 =>
  some n_2690 : Option (UInt64)).bind fun n_2675 =>
  some n_2675

def r02_Number_b1 (d_2701 : Arr UInt8 32) (n_2726 : UInt64) (i_2727 : Int) : Option ((UInt64 × Int) ⊕ (UInt64)) :=
  if (decide (i_2727 < 8)) = true then
    if InR i_2727 32 then
      lt1 (((shl64 n_2726 ((8 : UInt64)).toNat) ||| ((d_2701.get i_2727.toNat)).toUInt64)) fun (n_2738 : UInt64) =>
      some (.inl ((n_2738, (w64 (i_2727 + 1)))))
    else none
  else
    some (.inr n_2726)
def r02_Number (d_2701 : Arr UInt8 32) : Option (UInt64) :=
  ((loopO (fun (v : UInt64 × Int) => r02_Number_b1 d_2701 v.1 v.2) (((0 : UInt64), 0))).bind fun n_2731 =>
  some n_2731 : Option (UInt64)).bind fun n_2719 =>
  some n_2719

def r02_Same (a_2740 : List UInt8) (b_2741 : List UInt8) : Option (Bool) :=
  some ((a_2740 == b_2741))

def digest_Value (tag_2742 : List UInt8) (v_2743 : Api_Value) : Option (Arr UInt8 32 × Int) :=
  (codec_Encode v_2743).bind fun y_2744 =>
  if (y_2744.2 != 0) = true then
    lt1 ((⟨[(0 : UInt8), (0 : UInt8), (0 : UInt8), (0 : UInt8), (0 : UInt8), (0 : UInt8), (0 : UInt8), (0 : UInt8), (0 : UInt8), (0 : UInt8), (0 : UInt8), (0 : UInt8), (0 : UInt8), (0 : UInt8), (0 : UInt8), (0 : UInt8), (0 : UInt8), (0 : UInt8), (0 : UInt8), (0 : UInt8), (0 : UInt8), (0 : UInt8), (0 : UInt8), (0 : UInt8), (0 : UInt8), (0 : UInt8), (0 : UInt8), (0 : UInt8), (0 : UInt8), (0 : UInt8), (0 : UInt8), (0 : UInt8)], rfl⟩ : Arr UInt8 32)) fun (f_2746 : Arr UInt8 32) =>
    some ((f_2746, y_2744.2))
  else
    (digest_Tagged tag_2742 y_2744.1).bind fun y_2748 =>
    some ((y_2748, 0))

def law02_vector (d_2750 : Arr UInt8 32) (a_2751 : UInt8) (b_2752 : UInt8) (c_2753 : UInt8) (e_2754 : UInt8) (last_2755 : UInt8) : Option (Bool) :=
  (if ((d_2750.get 0) == a_2751) = true then
    if ((d_2750.get 1) == b_2752) = true then
      if ((d_2750.get 2) == c_2753) = true then
        if ((d_2750.get 3) == e_2754) = true then
          some (((d_2750.get 31) == last_2755))
        else
          some false
      else
        some false
    else
      some false
  else
    some false : Option (Bool)).bind fun t_2756 =>
  some t_2756

def law02_sane  : Option (Bool) :=
  lt1 ((⟨[(0 : UInt8), (0 : UInt8), (0 : UInt8), (0 : UInt8), (0 : UInt8), (0 : UInt8), (0 : UInt8), (0 : UInt8), (0 : UInt8), (0 : UInt8), (0 : UInt8), (0 : UInt8), (0 : UInt8), (0 : UInt8), (0 : UInt8), (0 : UInt8), (0 : UInt8), (0 : UInt8), (0 : UInt8), (0 : UInt8), (0 : UInt8), (0 : UInt8), (0 : UInt8), (0 : UInt8), (0 : UInt8), (0 : UInt8), (0 : UInt8), (0 : UInt8), (0 : UInt8), (0 : UInt8), (0 : UInt8), (0 : UInt8)], rfl⟩ : Arr UInt8 32)) fun (f_2767 : Arr UInt8 32) =>
  lt1 ((⟨[(0 : UInt8), (0 : UInt8), (0 : UInt8), (0 : UInt8), (0 : UInt8), (0 : UInt8), (0 : UInt8), (0 : UInt8), (0 : UInt8), (0 : UInt8), (0 : UInt8), (0 : UInt8), (0 : UInt8), (0 : UInt8), (0 : UInt8), (0 : UInt8), (0 : UInt8), (0 : UInt8), (0 : UInt8), (0 : UInt8), (0 : UInt8), (0 : UInt8), (0 : UInt8), (0 : UInt8), (0 : UInt8), (0 : UInt8), (0 : UInt8), (0 : UInt8), (0 : UInt8), (0 : UInt8), (0 : UInt8), (0 : UInt8)], rfl⟩ : Arr UInt8 32)) fun (f_2769 : Arr UInt8 32) =>
  lt1 ((f_2769.set 6 ((1 : UInt8)))) fun (f_2772 : Arr UInt8 32) =>
  lt1 ((f_2772.set 7 ((2 : UInt8)))) fun (f_2775 : Arr UInt8 32) =>
  (digest_Value (([116] : List UInt8)) ((Api_Value.mk 1 0 ([]) ([])))).bind fun y_2777 =>
  (codec_Encode ((Api_Value.mk 1 0 ([]) ([])))).bind fun y_2779 =>
  (digest_Value (([116] : List UInt8)) ((Api_Value.mk 0 0 ([]) ([])))).bind fun y_2781 =>
  ((digest_Sum ([])).bind fun y_2783 =>
  (law02_vector y_2783 ((227 : UInt8)) ((176 : UInt8)) ((196 : UInt8)) ((66 : UInt8)) ((85 : UInt8))).bind fun y_2784 =>
  if y_2784 = true then
    (digest_Sum (([(97 : UInt8), (98 : UInt8), (99 : UInt8)] : List UInt8))).bind fun y_2785 =>
    (law02_vector y_2785 ((186 : UInt8)) ((120 : UInt8)) ((22 : UInt8)) ((191 : UInt8)) ((173 : UInt8))).bind fun y_2786 =>
    some y_2786
  else
    some false : Option (Bool)).bind fun sums_2787 =>
  ((digest_Tagged (([97] : List UInt8)) (([(98 : UInt8), (99 : UInt8)] : List UInt8))).bind fun y_2794 =>
  (digest_Sum (([(1 : UInt8), (97 : UInt8), (98 : UInt8), (99 : UInt8)] : List UInt8))).bind fun y_2795 =>
  if (y_2794 == y_2795) = true then
    (digest_Tagged (([] : List UInt8)) ([])).bind fun y_2796 =>
    (digest_Sum (([(0 : UInt8)] : List UInt8))).bind fun y_2797 =>
    some ((y_2796 == y_2797))
  else
    some false : Option (Bool)).bind fun tags_2798 =>
  ((digest_Next f_2767 ([])).bind fun y_2805 =>
  (digest_Tagged (([110, 101, 120, 116] : List UInt8)) f_2767.l).bind fun y_2806 =>
  if (y_2805 == y_2806) = true then
    (digest_Number f_2775).bind fun y_2807 =>
    some ((y_2807 == (258 : UInt64)))
  else
    some false : Option (Bool)).bind fun links_2808 =>
  (if sums_2787 = true then
    if tags_2798 = true then
      if links_2808 = true then
        if (y_2777.2 == 0) = true then
          if (y_2779.2 == 0) = true then
            (digest_Tagged (([116] : List UInt8)) y_2779.1).bind fun y_2814 =>
            if (y_2777.1 == y_2814) = true then
              some ((y_2781.2 == 10))
            else
              some false
          else
            some false
        else
          some false
      else
        some false
    else
      some false
  else
    some false : Option (Bool)).bind fun t_2815 =>
  some t_2815

def law02_long_b1 (l_2824 : List (List UInt8)) (i_2858 : Int) : Option ((Int) ⊕ ((Unit) ⊕ ((Unit) ⊕ (Bool)))) :=
  (if (decide (i_2858 < (l_2824.length : Int))) = true then
    some ((decide (i_2858 < 9)))
  else
    some false : Option (Bool)).bind fun t_2870 =>
  if t_2870 = true then
    if InR i_2858 l_2824.length then
      if (decide (((nth l_2824 i_2858.toNat).length : Int) > 200)) = true then
        ((some true).bind fun z_2874 => some (.inr z_2874)).bind fun z_2875 => some (.inr (.inr z_2875))
      else
        some (.inl ((w64 (i_2858 + 1))))
    else none
  else
    some (.inr (.inl (())))
def law02_long (l_2824 : List (List UInt8)) : Option (Bool) :=
  ((loopO (fun (v : Int) => law02_long_b1 l_2824 v) 0).bind fun x => match x with
  | .inl () =>
    some (.inl (()))
  | .inr z => some z : Option ((Unit) ⊕ (Bool))).bind fun x => match x with
  | .inl () =>
    some ((decide ((l_2824.length : Int) > 8)))
  | .inr z => some z

def law02_chain_b1 (l_2877 : List (List UInt8)) (i_2929 : Int) (f_2930 : Arr UInt8 32) (l_2931 : List (Arr UInt8 32)) : Option ((Int × Arr UInt8 32 × List (Arr UInt8 32)) ⊕ (List (Arr UInt8 32))) :=
  (if (decide (i_2929 < (l_2877.length : Int))) = true then
    some ((decide (i_2929 < 8)))
  else
    some false : Option (Bool)).bind fun t_2947 =>
  if t_2947 = true then
    if InR i_2929 l_2877.length then
      (digest_Next f_2930 (nth l_2877 i_2929.toNat)).bind fun y_2950 =>
      if Fits (l_2931.length + 1) 32 then
        lt1 ((l_2931 ++ (([y_2950] : List (Arr UInt8 32))))) fun (l_2954 : List (Arr UInt8 32)) =>
        some (.inl (((w64 (i_2929 + 1)), y_2950, l_2954)))
      else none
    else none
  else
    some (.inr l_2931)
def law02_chain (d_2876 : Arr UInt8 32) (l_2877 : List (List UInt8)) : Option (List (Arr UInt8 32)) :=
  lt1 (([d_2876] : List (Arr UInt8 32))) fun (l_2878 : List (Arr UInt8 32)) =>
  ((loopO (fun (v : Int × Arr UInt8 32 × List (Arr UInt8 32)) => law02_chain_b1 l_2877 v.1 v.2.1 v.2.2) ((0, d_2876, l_2878))).bind fun l_2941 =>
  some l_2941 : Option (List (Arr UInt8 32))).bind fun l_2916 =>
  some l_2916

def law02_DigestSumMatchesReference (b_2956 : List UInt8) : Option (Bool) :=
  law02_sane.bind fun y_2957 =>
  if (!y_2957) = true then
    some false
  else
    if (decide ((b_2956.length : Int) > 1000)) = true then
      some true
    else
      (digest_Sum b_2956).bind fun y_2959 =>
      (r02_Sum b_2956).bind fun y_2960 =>
      some ((y_2959 == y_2960))

def law02_DigestMatchesReference (tag_2963 : List UInt8) (b_2964 : List UInt8) (d_2965 : Arr UInt8 32) : Option (Bool) :=
  law02_sane.bind fun y_2966 =>
  if (!y_2966) = true then
    some false
  else
    (if (decide ((tag_2963.length : Int) > 600)) = true then
      some true
    else
      some ((decide ((b_2964.length : Int) > 600))) : Option (Bool)).bind fun t_2968 =>
    if t_2968 = true then
      some true
    else
      ((digest_Tagged tag_2963 b_2964).bind fun y_2971 =>
      (r02_Tagged tag_2963 b_2964).bind fun y_2972 =>
      if (y_2971 == y_2972) = true then
        (digest_Next d_2965 b_2964).bind fun y_2973 =>
        (r02_Next d_2965 b_2964).bind fun y_2974 =>
        if (y_2973 == y_2974) = true then
          (digest_Number d_2965).bind fun y_2975 =>
          (r02_Number d_2965).bind fun y_2976 =>
          some ((y_2975 == y_2976))
        else
          some false
      else
        some false : Option (Bool)).bind fun t_2977 =>
      some t_2977

def law02_DigestTaggedIsSum (tag_2987 : List UInt8) (b_2988 : List UInt8) (d_2989 : Arr UInt8 32) : Option (Bool) :=
  law02_sane.bind fun y_2990 =>
  if (!y_2990) = true then
    some false
  else
    (if (decide ((tag_2987.length : Int) > 600)) = true then
      some true
    else
      some ((decide ((b_2988.length : Int) > 600))) : Option (Bool)).bind fun t_2992 =>
    if t_2992 = true then
      some true
    else
      lt1 (([] : List UInt8)) fun (l_2995 : List UInt8) =>
      if Fits (l_2995.length + d_2989.l.length) 1 then
        lt1 ((l_2995 ++ d_2989.l)) fun (l_2998 : List UInt8) =>
        if Fits (l_2998.length + b_2988.length) 1 then
          lt1 ((l_2998 ++ b_2988)) fun (l_3001 : List UInt8) =>
          ((digest_Tagged tag_2987 b_2988).bind fun y_3003 =>
          (r02_Hashed tag_2987 b_2988).bind fun y_3004 =>
          (digest_Sum y_3004).bind fun y_3005 =>
          if (y_3003 == y_3005) = true then
            (digest_Next d_2989 b_2988).bind fun y_3006 =>
            (digest_Tagged (([110, 101, 120, 116] : List UInt8)) l_3001).bind fun y_3007 =>
            some ((y_3006 == y_3007))
          else
            some false : Option (Bool)).bind fun t_3008 =>
          some t_3008
        else none
      else none

def law02_DigestTagsSeparate (tag_3016 : List UInt8) (b_3017 : List UInt8) (other_3018 : List UInt8) (c_3019 : List UInt8) : Option (Bool) :=
  law02_sane.bind fun y_3020 =>
  if (!y_3020) = true then
    some false
  else
    (if (decide ((tag_3016.length : Int) > 400)) = true then
      some true
    else
      if (decide ((b_3017.length : Int) > 400)) = true then
        some true
      else
        if (decide ((other_3018.length : Int) > 400)) = true then
          some true
        else
          some ((decide ((c_3019.length : Int) > 400))) : Option (Bool)).bind fun t_3022 =>
    if t_3022 = true then
      some true
    else
      (r02_Hashed tag_3016 b_3017).bind fun y_3027 =>
      (r02_Hashed other_3018 c_3019).bind fun y_3029 =>
      (if InB ((mn64 ((tag_3016.length : Int)) 255)) tag_3016.length then
        if InB ((mn64 ((other_3018.length : Int)) 255)) other_3018.length then
          if (((tag_3016.take (((mn64 ((tag_3016.length : Int)) 255)).toNat))) == ((other_3018.take (((mn64 ((other_3018.length : Int)) 255)).toNat)))) = true then
            (r02_Same b_3017 c_3019).bind fun y_3031 =>
            some y_3031
          else
            some false
        else none
      else none : Option (Bool)).bind fun same_3032 =>
      (digest_Tagged tag_3016 b_3017).bind fun y_3038 =>
      (digest_Tagged other_3018 c_3019).bind fun y_3039 =>
      ((r02_Same y_3027 y_3029).bind fun y_3042 =>
      if (!(same_3032 == y_3042)) = true then
        some true
      else
        if same_3032 = true then
          some ((!(y_3038 == y_3039)))
        else
          some false : Option (Bool)).bind fun t_3043 =>
      if t_3043 = true then
        some false
      else
        (digest_Sum y_3027).bind fun y_3049 =>
        (digest_Sum y_3029).bind fun y_3050 =>
        some (((y_3038 == y_3039) == (y_3049 == y_3050)))

def law02_DigestValues (tag_3053 : List UInt8) (v_3054 : Api_Value) : Option (Bool) :=
  law02_sane.bind fun y_3055 =>
  if (!y_3055) = true then
    some false
  else
    (codec_Encode v_3054).bind fun y_3057 =>
    (if (decide ((tag_3053.length : Int) > 400)) = true then
      some true
    else
      some ((decide ((y_3057.1.length : Int) > 1000))) : Option (Bool)).bind fun t_3059 =>
    if t_3059 = true then
      some true
    else
      (digest_Value tag_3053 v_3054).bind fun y_3062 =>
      if (y_3057.2 != 0) = true then
        (if (y_3062.2 == y_3057.2) = true then
          some ((y_3062.1 == (⟨[(0 : UInt8), (0 : UInt8), (0 : UInt8), (0 : UInt8), (0 : UInt8), (0 : UInt8), (0 : UInt8), (0 : UInt8), (0 : UInt8), (0 : UInt8), (0 : UInt8), (0 : UInt8), (0 : UInt8), (0 : UInt8), (0 : UInt8), (0 : UInt8), (0 : UInt8), (0 : UInt8), (0 : UInt8), (0 : UInt8), (0 : UInt8), (0 : UInt8), (0 : UInt8), (0 : UInt8), (0 : UInt8), (0 : UInt8), (0 : UInt8), (0 : UInt8), (0 : UInt8), (0 : UInt8), (0 : UInt8), (0 : UInt8)], rfl⟩ : Arr UInt8 32)))
        else
          some false : Option (Bool)).bind fun t_3064 =>
        some t_3064
      else
        (if (y_3062.2 == 0) = true then
          (digest_Tagged tag_3053 y_3057.1).bind fun y_3067 =>
          some ((y_3062.1 == y_3067))
        else
          some false : Option (Bool)).bind fun t_3068 =>
        some t_3068

def law02_DigestChainBinds_b1 (l_3073 : List (List UInt8)) (m_3074 : List (List UInt8)) (i_3195 : Int) : Option ((Int) ⊕ ((Unit) ⊕ ((Unit) ⊕ ((Unit) ⊕ (Bool))))) :=
  if (decide (i_3195 < (l_3073.length : Int))) = true then
    if InR i_3195 l_3073.length then
      if InR i_3195 m_3074.length then
        (r02_Same (nth l_3073 i_3195.toNat) (nth m_3074 i_3195.toNat)).bind fun y_3208 =>
        if (!y_3208) = true then
          (((some true).bind fun z_3212 => some (.inr z_3212)).bind fun z_3213 => some (.inr z_3213)).bind fun z_3214 => some (.inr (.inr z_3214))
        else
          some (.inl ((w64 (i_3195 + 1))))
      else none
    else none
  else
    some (.inr (.inl (())))
def law02_DigestChainBinds_b2 (l_3073 : List (List UInt8)) (m_3074 : List (List UInt8)) (y_3085 : List (Arr UInt8 32)) (y_3087 : List (Arr UInt8 32)) (i_3369 : Int) : Option ((Int) ⊕ ((Unit) ⊕ ((Unit) ⊕ (Bool)))) :=
  if (decide (i_3369 ≥ 0)) = true then
    ((if InR i_3369 y_3085.length then
      if InR i_3369 y_3087.length then
        if (!(nth y_3085 i_3369.toNat == nth y_3087 i_3369.toNat)) = true then
          some true
        else
          if InR i_3369 l_3073.length then
            if InR i_3369 m_3074.length then
              (r02_Same (nth l_3073 i_3369.toNat) (nth m_3074 i_3369.toNat)).bind fun y_3429 =>
              some ((!y_3429))
            else none
          else none
      else none
    else none : Option (Bool)).bind fun t_3430 =>
    if t_3430 = true then
      if InR ((w64 (i_3369 + 1))) y_3085.length then
        if InR ((w64 (i_3369 + 1))) y_3087.length then
          lt1 ((nth y_3085 (((w64 (i_3369 + 1))).toNat) == nth y_3087 (((w64 (i_3369 + 1))).toNat))) fun (t_3440 : Bool) =>
          if t_3440 = true then
            (((some true).bind fun z_3442 => some (.inr z_3442)).bind fun z_3443 => some (.inr (.inr z_3443))).bind fun z_3444 => some (.inr z_3444)
          else
            some (.inl (()))
        else none
      else none
    else
      some (.inl (())) : Option ((Unit) ⊕ ((Int) ⊕ ((Unit) ⊕ ((Unit) ⊕ (Bool)))))).bind fun x => match x with
    | .inl () =>
      some (.inl ((w64 (i_3369 - 1))))
    | .inr z => some z
  else
    some (.inr (.inl (())))
def law02_DigestChainBinds_b3 (l_3073 : List (List UInt8)) (m_3074 : List (List UInt8)) (i_3478 : Int) : Option ((Int) ⊕ ((Unit) ⊕ ((Unit) ⊕ (Bool)))) :=
  if (decide (i_3478 < (l_3073.length : Int))) = true then
    if InR i_3478 l_3073.length then
      if InR i_3478 m_3074.length then
        (r02_Same (nth l_3073 i_3478.toNat) (nth m_3074 i_3478.toNat)).bind fun y_3490 =>
        if (!y_3490) = true then
          ((some false).bind fun z_3494 => some (.inr z_3494)).bind fun z_3495 => some (.inr (.inr z_3495))
        else
          some (.inl ((w64 (i_3478 + 1))))
      else none
    else none
  else
    some (.inr (.inl (())))
def law02_DigestChainBinds (d_3072 : Arr UInt8 32) (l_3073 : List (List UInt8)) (m_3074 : List (List UInt8)) : Option (Bool) :=
  law02_sane.bind fun y_3075 =>
  if (!y_3075) = true then
    some false
  else
    (if ((l_3073.length : Int) != (m_3074.length : Int)) = true then
      some true
    else
      (law02_long l_3073).bind fun y_3077 =>
      if y_3077 = true then
        some true
      else
        (law02_long m_3074).bind fun y_3078 =>
        some y_3078 : Option (Bool)).bind fun t_3079 =>
    if t_3079 = true then
      some true
    else
      (law02_chain d_3072 l_3073).bind fun y_3085 =>
      (law02_chain d_3072 m_3074).bind fun y_3087 =>
      (if InR ((l_3073.length : Int)) y_3085.length then
        if InR ((l_3073.length : Int)) y_3087.length then
          lt1 ((!(nth y_3085 (((l_3073.length : Int)).toNat) == nth y_3087 (((l_3073.length : Int)).toNat)))) fun (t_3156 : Bool) =>
          if t_3156 = true then
            ((loopO (fun (v : Int) => law02_DigestChainBinds_b1 l_3073 m_3074 v) 0).bind fun x => match x with
            | .inl () =>
              some (.inl (()))
            | .inr z => some z : Option ((Unit) ⊕ ((Unit) ⊕ (Bool)))).bind fun x => match x with
            | .inl () =>
              (some false).bind fun z_3215 => some (.inr z_3215)
            | .inr z => some z
          else
            some (.inl (()))
        else none
      else none : Option ((Unit) ⊕ (Bool))).bind fun x => match x with
      | .inl () =>
        (lt1 ((w64 ((l_3073.length : Int) - 1))) fun (i_3332 : Int) =>
        (loopO (fun (v : Int) => law02_DigestChainBinds_b2 l_3073 m_3074 y_3085 y_3087 v) i_3332).bind fun x => match x with
        | .inl () =>
          some (.inl (()))
        | .inr z => some z : Option ((Unit) ⊕ (Bool))).bind fun x => match x with
        | .inl () =>
          ((loopO (fun (v : Int) => law02_DigestChainBinds_b3 l_3073 m_3074 v) 0).bind fun x => match x with
          | .inl () =>
            some (.inl (()))
          | .inr z => some z : Option ((Unit) ⊕ (Bool))).bind fun x => match x with
          | .inl () =>
            some true
          | .inr z => some z
        | .inr z => some z
      | .inr z => some z

def law02_DigestNumbers_b1 (a_3496 : Arr UInt8 32) (y_3500 : UInt64) (i_3537 : Int) : Option ((Int) ⊕ ((Unit) ⊕ ((Unit) ⊕ (Bool)))) :=
  if (decide (i_3537 < 8)) = true then
    if NotNeg ((w64 (56 - (w64 (8 * i_3537))))) then
      if InR i_3537 32 then
        lt1 ((((shr64 y_3500 (((w64 (56 - (w64 (8 * i_3537))))).toNat))).toUInt8 != (a_3496.get i_3537.toNat))) fun (t_3551 : Bool) =>
        if t_3551 = true then
          ((some false).bind fun z_3553 => some (.inr z_3553)).bind fun z_3554 => some (.inr (.inr z_3554))
        else
          some (.inl ((w64 (i_3537 + 1))))
      else none
    else none
  else
    some (.inr (.inl (())))
def law02_DigestNumbers (a_3496 : Arr UInt8 32) (b_3497 : Arr UInt8 32) : Option (Bool) :=
  law02_sane.bind fun y_3498 =>
  if (!y_3498) = true then
    some false
  else
    (digest_Number a_3496).bind fun y_3500 =>
    (digest_Number b_3497).bind fun y_3502 =>
    ((loopO (fun (v : Int) => law02_DigestNumbers_b1 a_3496 y_3500 v) 0).bind fun x => match x with
    | .inl () =>
      some (.inl (()))
    | .inr z => some z : Option ((Unit) ⊕ (Bool))).bind fun x => match x with
    | .inl () =>
      lt1 (((decide (y_3500 < y_3502)) == (Op.bytesLess ((a_3496.l.take 8)) ((b_3497.l.take 8))))) fun (t_3557 : Bool) =>
      some t_3557
    | .inr z => some z

end Go.Proofs.YtgdiabbgiiemcaaDoor
